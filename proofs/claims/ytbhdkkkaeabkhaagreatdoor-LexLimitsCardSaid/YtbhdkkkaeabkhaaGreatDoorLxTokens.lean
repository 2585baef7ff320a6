/-
  The walks of All and Tokens.
-/
import Derived.Test.YtbhdkkkaeabkhaaGreatDoorLxYield
namespace Go.Proofs.YtbhdkkkaeabkhaaGreatDoor
open Go.RowKit Go.Shelf
set_option linter.unusedSimpArgs false
set_option linter.unusedVariables false
attribute [local go_sem] Oper.semAt_some

theorem lexAll (s : ByteArray) (w : World) : Calls Tryz.prog 27 #[.string s] w fun e w' =>
    e = .returned (.func (.func 53) #[] #[.pointer (some ⟨w.heap.size, 0, none⟩)]) ∧ w' = w.alloc (.cells #[.string s] 9) := by
  go_enter Tryz.func27, Tryz.ntmps27
  go_wp2
  go_ret
  exact ⟨rfl, rfl⟩

/-- A token's cells. -/
def cellsT (t : Lx.Tok) : List Value := [.int .i64 t.pos, .int .i64 t.kind, .string ⟨t.s.toArray⟩, .int .i64 t.n]
def OwnT (w : World) (base : Nat) (v : Value) (l : List Lx.Tok) : Prop := w.ownsRow base 26 4 v l.length (l.flatMap cellsT)
theorem infoTok : (Tryz.prog.info? 26).map (fun i => (i.zero, i.size, i.bytes)) = some (some (.agg #[.int .i64 0, .int .i64 0, .string ⟨#[]⟩, .int .i64 0]), 4, 40) := by kernel_rfl

/-- A row of tokens handed out: its length is its room. -/
def RowT (w : World) (base : Nat) (v : Value) (l : List Lx.Tok) : Prop :=
  (l = [] ∧ v = .slice none 0 0) ∨ ∃ g cur, v = .slice (some ⟨g, 0, none⟩) l.length l.length ∧ base ≤ g ∧ w.heap[g]? = some (.cells cur 26 (0, 0)) ∧ l.length * 4 ≤ cur.size ∧ cur.toList.take (l.length * 4) = l.flatMap cellsT

/-- What Tokens answers. -/
def TokIs (w : World) (r : List Lx.Tok × Option (Nat × Nat)) (e : Ending) (w' : World) : Prop :=
  w.grownBy w' none ∧
  match r.2 with
  | none => ∃ v, e = .returned (.tuple #[v, .nilIface]) ∧ RowT w' w.heap.size v r.1
  | some (y, x) => ∃ g, e = .returned (.tuple #[.slice none 0 0, .iface 74 (.pointer (some ⟨g, 0, none⟩))]) ∧ IsRef w' g x y ∧ w.heap.size ≤ g

theorem num_snd : ∀ (i : Nat) (l : List Lx.Tok), (num i l).map Prod.snd = l
  | _, [] => rfl
  | i, t :: l => by simp [num, num_snd (i + 1) l]
theorem num_length (i : Nat) (l : List Lx.Tok) : (num i l).length = l.length := by rw [← List.length_map (f := Prod.snd), num_snd]
theorem go_length : ∀ (f p i : Nat) (l : Lx.Bytes), (Lx.go f p i l).1.length ≤ f
  | 0, _, _, _ => by simp [Lx.go]
  | f + 1, p, i, l => by
    simp only [Lx.go]
    split
    · simp
    · split
      · simp
      · split
        · simp
        · split
          · simp
          · have := go_length f
            simp only [List.length_cons]
            exact Nat.succ_le_succ (this _ _ _)
theorem toks_length (l : Lx.Bytes) : (Lx.toks l).1.length ≤ 65537 := by
  unfold Lx.toks
  split
  · simp
  · have := go_length (l.length + 1) 0 0 l
    omega
theorem cells_new (w : World) (t : TypeId) (cs : List Value) (j : Nat) (u : Value) (h : cs[j]? = some u) : (w.alloc (.cells cs.toArray t)).cell? ((⟨w.heap.size, 0, none⟩ : Addr).add j) = some u := by
  have h2 := heap_alloc_new w (.cells cs.toArray t)
  have e : (⟨w.heap.size, 0, none⟩ : Addr).add j = ⟨w.heap.size, j, none⟩ := by
    by_cases h0 : j = 0
    · subst h0; simp [Addr.add]
    · simp [Addr.add, h0]
  rw [e, cell_of h2 j]
  simpa using h
theorem row_kind {w : World} {B : Nat} {e : TypeId} {size : Nat} {v : Value} {n : Nat} {xs : List Value} (h : w.ownsRow B e size v n xs) (g : Nat) (hv : v.ownBlock = some g) : B ≤ g ∧ ∃ c, w.heap[g]? = some (.cells c e (0, 0)) := by
  rcases h.2 with ⟨rfl, _⟩ | ⟨g', cap, cur, rfl, hb, hg, _⟩
  · simp [Value.ownBlock] at hv
  · obtain rfl : g' = g := by simpa [Value.ownBlock] using hv
    exact ⟨hb, cur, hg⟩
/-- What is cells of another type lies through a turn. -/
theorem turn_ne {T t k : Nat} {W W' : World} {row : Option Nat} {cs : Array Value} {fr : Nat × Nat} {B : Nat} (hk : W.heap[k]? = some (.cells cs t fr)) (ht : t ≠ T)
    (hr : ∀ r, row = some r → B ≤ r ∧ ∃ o : Obj, W.heap[r]? = some o ∧ (o.isCells = false ∨ OfT T o)) : some k ≠ row := by
  intro e
  obtain ⟨_, o, ho, h⟩ := hr k e.symm
  rw [hk] at ho
  injection ho with ho
  subst ho
  rcases h with h | ⟨_, _, h⟩
  · cases h
  · injection h with h1 h2 h3; exact ht h2
theorem OwnT.turn {W W' : World} {row : Option Nat} {v : Value} {l : List Lx.Tok} {base T B : Nat} (h : OwnT W base v l) (ht : 26 ≠ T) (hg : W.grownBy W' row)
    (hr : ∀ r, row = some r → B ≤ r ∧ ∃ o : Obj, W.heap[r]? = some o ∧ (o.isCells = false ∨ OfT T o)) : OwnT W' base v l := by
  refine World.ownsRow.kept h hg ?_
  cases hv : v.ownBlock with
  | none => exact .inl rfl
  | some g =>
    right
    obtain ⟨_, c, hc⟩ := row_kind h g hv
    exact turn_ne (W' := W') hc ht hr
theorem below_grown {w w' : World} (h : Below w.heap.size w w') : w.grownBy w' none := ⟨h.os, h.tape, h.output, h.size, fun k hk _ => h.block k hk⟩
theorem grown_below {w w' : World} (h : w.grownBy w' none) : Below w.heap.size w w' := ⟨h.os, h.tape, h.output, h.size, fun k hk => h.block k hk (fun e => nomatch e)⟩
theorem Below.turn {w W W' : World} {row : Option Nat} (h : Below w.heap.size w W) (hg : W.grownBy W' row) (hr : ∀ r, row = some r → w.heap.size ≤ r) : Below w.heap.size w W' :=
  ⟨hg.os.trans h.os, hg.tape.trans h.tape, hg.output.trans h.output, Nat.le_trans h.size hg.size, fun k hk => (hg.block k (Nat.lt_of_lt_of_le hk h.size) (fun e => by have := hr k e.symm; omega)).trans (h.block k hk)⟩

set_option maxRecDepth 100000 in
set_option maxHeartbeats 8000000 in
theorem lexTokens (s : ByteArray) (w : World) (hG : GS w) (hN : NG ≤ w.heap.size) (hs : s.size ≤ 140737488351232) :
    Calls Tryz.prog 16 #[.string s] w (TokIs w (Lx.toks s.data.toList)) := by
  refine (callsIn_wide (n := 3)).1 ?_
  refine callsIn_of_wp_marks Tryz.func16 rfl trivial ?_ rfl
  simp only [Tryz.ntmps16, List.size_toArray, List.length_cons, List.length_nil, Nat.reduceAdd, Nat.reduceSub, Array.replicate_succ, Array.replicate_zero, List.push_toArray, List.append_toArray, List.nil_append, List.cons_append]
  have hdw : ∀ k : Nat, (Fence.wide.depth.isSome = true → 1 ≤ k) := fun k h => by cases h
  have hcut := lexCutAll s w hG hN hs
  cases hr : (Lx.toks s.data.toList).2 with
  | some yx =>
    obtain ⟨y, x⟩ := yx
    have HR := Lib.hid hr
    clear hr
    gi_wp2_with (refine ⟨trivial, ?_⟩; gi_at_call 38; refine (callsIn_wide.2 hcut).mono ?_; clear hcut; intro e w5 hend; rw [HR.out] at hend; obtain ⟨hg5, g, rfl, hR5, hgl⟩ := hend)
    refine ⟨_, results_tmp2 rfl _ _ _, hg5, ?_⟩
    rw [HR.out]
    exact ⟨g, rfl, hR5, hgl⟩
  | none =>
    have HR := Lib.hid hr
    clear hr
    gi_wp2_with (first | (refine ⟨trivial, ?_⟩; gi_at_call 38; refine (callsIn_wide.2 hcut).mono ?_; clear hcut; intro e w5 hend; rw [HR.out] at hend; obtain ⟨hg5, rfl⟩ := hend) | (refine ⟨trivial, ?_⟩; gi_at_call 27; refine (callsIn_wide.2 (lexAll _ _)).mono ?_; rintro e w' ⟨rfl, rfl⟩))
    have hl6 : Boxed (w5.alloc (.cells #[.slice none 0 0] 28)) w5.heap.size 28 (.slice none 0 0) := Boxed.new _ _ _
    have hl7 := hl6.alloc (.cells #[.string s] 9)
    have hb7 : ((w5.alloc (.cells #[.slice none 0 0] 28)).alloc (.cells #[.string s] 9)).cell? ⟨w5.heap.size + 1, 0, none⟩ = some (.string s) := by
      have := Boxed.cell (Boxed.new (w5.alloc (.cells #[.slice none 0 0] 28)) 9 (.string s)); rwa [World.size_alloc] at this
    have hg7 : Below w.heap.size w ((w5.alloc (.cells #[.slice none 0 0] 28)).alloc (.cells #[.string s] 9)) := grown_below ((hg5.trans (World.grownBy_alloc _ _ _)).trans (World.grownBy_alloc _ _ _))
    have hs7 : ((w5.alloc (.cells #[.slice none 0 0] 28)).alloc (.cells #[.string s] 9)).heap.size = w5.heap.size + 2 := by simp
    have hs5 := hg5.size
    obtain ⟨L, hL⟩ : ∃ L, w5.heap.size = L := ⟨_, rfl⟩
    rw [hL] at hl7 hb7 hs7 hs5 ⊢
    obtain ⟨w7, hw7⟩ : ∃ w7, (w5.alloc (.cells #[.slice none 0 0] 28)).alloc (.cells #[.string s] 9) = w7 := ⟨_, rfl⟩
    rw [hw7] at hl7 hb7 hg7 hs7 ⊢
    clear hw7 hl6
    have hmx : (1 : Nat) ≤ 3 := by decide
    refine range_T (T := 102) (n₀ := NG) rfl hmx (gf := 53) (lb := #[.pointer (some ⟨L + 1, 0, none⟩)]) rfl trivial (enters_of Tryz.func53 (by kernel_rfl) rfl)
      (lexAll_seq s (L + 1) (3 - 1) w7 (hG.below hg7) (by have := hg7.size; omega) hs hb7) (Below.refl _ _) (by have := hg7.size; omega) (fun _ => rfl)
      (fun pre W => (∃ v, Boxed W L 28 v ∧ OwnT W w.heap.size v (pre.map Prod.snd)) ∧ Below w.heap.size w W) (fun _ _ _ => False)
      (fun x a₁ W => ∃ bx, W.heap[bx]? = some (.cells (cellsT x.2).toArray 26 (0, 0)) ∧ a₁ = { tmps := #[.string s, undef, .slice none 0 0, .nilIface, .pointer none, .pointer (some ⟨L, 0, none⟩), undef, .pointer (some ⟨bx, 0, none⟩), .string s, .pointer none, .pointer none, .bool false, undef, undef, .string s,
          .func (.func 53) #[] #[.pointer (some ⟨L + 1, 0, none⟩)], .int .i64 x.1, .agg #[.int .i64 x.2.pos, .int .i64 x.2.kind, .string ⟨x.2.s.toArray⟩, .int .i64 x.2.n], undef, undef, undef, undef, undef, undef, undef, undef, undef, undef], defers := [] })
      ?hI (fun _ _ _ _ _ hs _ _ => hs) ?hAx ⟨⟨_, hl7, World.ownsRow_nil _ _ _ _⟩, hg7⟩ ?assign ?body ?done ?stop
    case hI =>
      rintro pre W W' row ⟨⟨v, hv, ho⟩, hb⟩ hgr hr
      exact ⟨⟨v, hv.kept hgr (turn_ne (W' := W') hv (by decide) hr), ho.turn (by decide) hgr hr⟩, Below.turn hb hgr (fun r e => by have := (hr r e).1; have := hg7.size; omega)⟩
    case hAx =>
      rintro a₁ x W W' row ⟨bx, hbx, he⟩ hgr hr
      exact ⟨bx, (hgr.block _ (lt_of_block hbx) (turn_ne (W' := W') hbx (by decide) hr)).trans hbx, he⟩
    case assign =>
      intro l pre x W hl hi hrn
      dsimp only [encT]
      gi_wp2
      exact ⟨World.grownBy_alloc _ _ _, W.heap.size, heap_alloc_new _ _, rfl⟩
    case body =>
      rintro l pre x a₁ W hl ⟨⟨v, hv, ho⟩, hb⟩ ⟨bx, hbx, rfl⟩ hrn
      have hc := hv.cell
      have hf := hv.frozen
      obtain ⟨b0, b1, b2, b3⟩ := four_cells hbx
      have hWs := hb.size
      obtain ⟨i0, hi, hz0, hz1, hz2⟩ := info_parts infoTok
      have hlen : pre.length + 1 ≤ 65537 := by
        have h1 := hrn.length_le
        rw [num_length] at h1
        have := toks_length s.data.toList
        simp at h1
        omega
      obtain ⟨k, hk⟩ : ∃ k, (pre.map Prod.snd).length = k := ⟨_, rfl⟩
      have hk1 : k + 1 ≤ 65537 := by rw [← hk]; simpa using hlen
      have ho' : W.ownsRow w.heap.size 26 4 v k ((pre.map Prod.snd).flatMap cellsT) := by rw [← hk]; exact ho
      gi_wp2_with (gi_at_builtin; refine wpListIn_append_own _ rfl _ _ 28 rfl w.heap.size 26 i0 _ 4 40 Tryz.underlying28 hi hz0 hz1 hz2 rfl (by decide) _ _ _ rfl (ho'.alloc _) ⟨W.heap.size, 0, none⟩ 1 1 (cellsT x.2) rfl rfl (cells_new _ _ _) (by simp [cellsT, Value.oneCell']) (by unfold maxLen; omega) (by omega) (by simp; omega) ?_; intro v' w1 hown' hgrow _; obtain ⟨g', cap', rfl⟩ := ownsRow_succ hown'; obtain ⟨hv1, hv2, hr2, hk2, hb2⟩ := hv.appended (by decide) ho' (by omega) (by omega) hown' hgrow; have hc1 := hv1.cell; have hf1 := hv1.frozen)
      have hrow := ho'.alloc (.cells (cellsT x.2).toArray 26)
      have hkeep : KeepT 102 NG W (w1.setCell ⟨L, 0, none⟩ (.slice (some ⟨g', 0, none⟩) (k + 1) cap')) := by
        refine ((KeepT.alloc _ _ W _).trans (KeepT.of_grownBy hgrow ?_)).trans (KeepT.of_grownBy (grown_set _ _ _ _) ?_)
        · intro r e
          obtain ⟨hb1, c, hc'⟩ := row_kind hrow r e
          refine ⟨by omega, ?_⟩
          rintro o hro ⟨cs, fr, rfl⟩
          have hro' := hc'.symm.trans hro
          injection hro' with h
          injection h with h1 h2 h3
          exact absurd h2 (by decide)
        · intro r e
          injection e with e
          subst e
          refine ⟨by omega, ?_⟩
          rintro o hro ⟨cs, fr, rfl⟩
          have hro' := (show w1.heap[L]? = _ from hv1).symm.trans hro
          injection hro' with h
          injection h with h1 h2 h3
          exact absurd h2 (by decide)
      refine ⟨hk2, hkeep, ⟨_, hv2, ?_⟩, hb.trans hb2⟩
      have hlk : ((pre ++ [x]).map Prod.snd).length = k + 1 := by simp [← hk]
      unfold OwnT
      rw [hlk, List.map_append, List.flatMap_append]
      simpa using hr2
    case done =>
      rintro D xs W hD rfl ⟨⟨v, hv, ho⟩, hb⟩ hK
      rw [num_snd] at ho
      have hc := hv.cell
      have hcl := toks_length s.data.toList
      obtain ⟨ts, hts⟩ : ∃ ts, (Lx.toks s.data.toList).1 = ts := ⟨_, rfl⟩
      rw [hts] at ho hcl
      have HTS := Lib.hid hts
      clear hts
      have hDL : D < W.heap.size := lt_of_block hK
      have hgr : w.grownBy (W.putObj D (.deferred none)) none := below_grown (Below.turn hb (grownBy_putObj' W D _) (fun r e => by injection e with e; have := hg7.size; omega))
      rcases ho.2 with ⟨rfl, hn⟩ | ⟨g, cap, cur, rfl, hbg, hgb, hcap, hcm, hcs, htk⟩
      · gi_wp2
        refine ⟨by simp, .inl ⟨_, _, rfl, run_takeDeferred hK, ?_⟩⟩
        refine ⟨_, results_tmp2 rfl _ _ _, hgr, ?_⟩
        rw [HR.out, HTS.out]
        exact ⟨_, rfl, .inl ⟨List.length_eq_zero_iff.1 hn, rfl⟩⟩
      · have n0 : (0 : Int) ≤ (ts.length : Int) := by omega
        have n1 : (ts.length : Int) ≤ (cap : Int) := by omega
        have n2 : (ts.length : Int) ≤ 65537 := by omega
        gi_wp2
        refine ⟨by simp, .inl ⟨_, _, rfl, run_takeDeferred hK, ?_⟩⟩
        refine ⟨_, results_tmp2 rfl _ _ _, hgr, ?_⟩
        rw [HR.out, HTS.out]
        refine ⟨_, rfl, .inr ⟨g, cur, rfl, hbg, ?_, by rw [hcs]; exact Nat.mul_le_mul_right 4 hcap, htk⟩⟩
        exact (World.putObj_heap_other (fun e => by rw [e] at hgb; rw [hgb] at hK; cases hK)).trans hgb
    case stop =>
      rintro D c pre W _ _ h _
      exact h.elim

end Go.Proofs.YtbhdkkkaeabkhaaGreatDoor
