/-
  The walk of handed: does a sequence hand out just these?
  Plain laws: around the longest text, the most tokens, the longest name. No program in sight.
  The walk of LexLimits.
  The walk of LexCuts.
-/
import Derived.Test.YtbhdkkkaeabkhaaGreatDoorM7
import Derived.Test.YtbhdkkkaeabkhaaGreatDoorM13
import Derived.OrdersIn
import Derived.Deep.QuietTactic
import Derived.Test.YtbhdkkkaeabkhaaGreatDoorM14
import Derived.KernelRfl
import Derived.OwnWalk
import Derived.Lib.AppendStr
import Derived.Test.YtbhdkkkaeabkhaaGreatDoorM18
import Derived.Test.YtbhdkkkaeabkhaaGreatDoorM19
namespace Go.Proofs.YtbhdkkkaeabkhaaGreatDoor
open Go.RowKit Go.Shelf
set_option linter.unusedSimpArgs false
set_option linter.unusedVariables false
attribute [local go_sem] Oper.semAt_some
attribute [local go_sem high] tokNe

section
variable {P : Program} {ops : Array Oper} {C : World → Prop} {md : Region.Mode}
/-- No operation is a defer statement. -/
def noDefer (l : List Oper) : Bool := l.all fun o => match o.op with | .defer _ => false | _ => true
theorem noDefer_spec {o : Oper} {l : List Oper} (h : noDefer l = true) (ho : o ∈ l) : ∀ c, o.op ≠ .defer c := by
  intro c hc
  have := List.all_eq_true.1 h o ho
  rw [hc] at this
  cases this
/-- In a round: an operation that only reads. -/
theorem wpIn_of_quietR {r n : Nat} {o : Oper} {a : Act} {K : Act → Prop} {K' : Act → World → Prop} {Q' : Exit → Act → World → Prop} {w : World} (hnd : ∀ c, o.op ≠ .defer c) (hw : C w) (h : ∀ a w', C w' → K a → K' a w') (hh : o.quiet P a C K) :
    o.wpIn (Fence.wide.inRound r) n P a w K' Q' := by
  obtain ⟨v, h1, h2⟩ := hh
  have h3 := h1 w hw
  unfold Oper.quietAt at h3
  refine ⟨fun f _ => trivial, ?_⟩
  rw [Oper.semAt_eq _ _ _ hnd]
  generalize (execOp a.eval o).run P w = r at *
  cases r with
  | ok n w' =>
    cases n <;> simp only [Oper.quietUpon] at h3 <;> simp only [Oper.uponIn]
    case value u =>
      obtain ⟨e1, e2⟩ := h3
      rw [e1, e2]
      exact h _ _ hw h2
    case skip =>
      obtain ⟨e1, e2⟩ := h3
      rw [e1, ← e2]
      exact h _ _ hw h2
    case enter f args =>
      obtain ⟨e1, hc⟩ := h3
      rw [e1]
      exact ⟨fun h => (by cases h), (CallsIn.inRound _ (callsIn_wide.2 hc)).mono fun e w'' ⟨he, hw''⟩ => by subst he; exact h _ _ hw'' h2⟩
  | halt x w' => simp only [Oper.quietUpon] at h3
theorem wpOpIn_of_qOpR {r n i : Nat} {a : Act} {K : Act → Prop} {K' : Act → World → Prop} {Q' : Exit → Act → World → Prop} {w : World} (hnd : ∀ (i : Nat) (o : Oper), ops[i]? = some o → ∀ c, o.op ≠ .defer c) (hC : C w) (h : ∀ a w', C w' → K a → K' a w') (hh : qOp P ops C i K a) :
    wpOpIn (Fence.wide.inRound r) n P ops Q' i K' a w := by
  unfold qOp at hh
  unfold wpOpIn
  split
  · rename_i ho; simp only [ho] at hh; exact h _ _ hC hh
  · rename_i o ho
    simp only [ho] at hh
    split
    · rename_i hw; simp only [hw, if_true] at hh; exact wpIn_of_quietR (hnd i o ho) hC h hh
    · rename_i hw; simp only [hw] at hh; exact ⟨fun f _ => trivial, h _ _ hC hh⟩
theorem wpAnyIn_of_quietR {r n : Nat} {Q : Act → Prop} {Q' : Exit → Act → World → Prop} (hnd : ∀ (i : Nat) (o : Oper), ops[i]? = some o → ∀ c, o.op ≠ .defer c) (hQ : ∀ a w, C w → Q a → Q' .normal a w) : ∀ (fuel : Nat) (listed : Array Bool) (a : Act) (w : World), C w →
    wpAnyQ P md ops C Q fuel listed a → wpAnyIn (Fence.wide.inRound r) n P md ops Q' fuel listed a w
  | 0, _, _, _, hw, h => ⟨h.1, hQ _ _ hw h.2⟩
  | fuel + 1, _, _, _, hw, h => ⟨fun h0 => hQ _ _ hw (h.1 h0), fun i hi => wpOpIn_of_qOpR hnd hw (fun a' w' hw' => wpAnyIn_of_quietR hnd hQ fuel _ a' w' hw') (h.2 i hi)⟩
/-- A region that draws its order and only reads, in a round of a loop over an iterator: one walk serves every order. -/
theorem wpIn_region_quietR {r n id : Nat} {Q : Exit → Act → World → Prop} {a : Act} {w : World} {l : List Oper} (hnd : noDefer l = true) (hm : P.follows .mixedOrders = true) (hB : Region.lexB .any l.toArray = true)
    (h : wpQuiet P l.toArray (fun w' => ∃ n, w' = w.drewN n) (fun a' => ∀ w', (∃ n, w' = w.drewN n) → Q .normal a' w') l a) : (Code.region id l.toArray true).wpIn (Fence.wide.inRound r) n P Q a w := by
  simp only [Region.lexB, Bool.and_eq_true] at hB
  refine wpIn_region_any hm (wpAnyIn_of_quietR (C := fun w' => ∃ n, w' = w.drewN n) (Q := fun a' => ∀ w', (∃ n, w' = w.drewN n) → Q .normal a' w') (fun i o ho => noDefer_spec hnd ?_) (fun _ w' hw' h => h w' hw') _ _ _ _ ⟨1, rfl⟩ ?_)
  · rw [List.getElem?_toArray] at ho
    exact List.mem_of_getElem? ho
  · have := wpAnyQ_lex (C := fun w' => ∃ n, w' = w.drewN n) (md := .any) hB.1 l 0 (Array.replicate l.toArray.size false) a (by simp) (by simpa using hB.2) h
    simpa using this
end
theorem num_at : ∀ (l : List Lx.Tok) (i k : Nat) (h : k < l.length), (num i l)[k]? = some (i + k, l[k]'h)
  | t :: l, i, 0, h => rfl
  | t :: l, i, k + 1, h => by
    show (num (i + 1) l)[k]? = _
    rw [num_at l (i + 1) k (by simpa using h)]
    simp
    omega
theorem num_prefix {ts : List Lx.Tok} {pre : List (Nat × Lx.Tok)} {x : Nat × Lx.Tok} (h : pre ++ [x] <+: num 0 ts) : ∃ h : pre.length < ts.length, x = (pre.length, ts[pre.length]'h) := by
  have hl := h.length_le
  rw [num_length, List.length_append, List.length_cons, List.length_nil] at hl
  have hlt : pre.length < ts.length := by omega
  refine ⟨hlt, ?_⟩
  obtain ⟨r, hr⟩ := h
  have h1 := num_at ts 0 pre.length hlt
  rw [← hr, List.append_assoc, List.getElem?_append_right (Nat.le_refl _), Nat.sub_self] at h1
  simp at h1
  exact h1

set_option maxRecDepth 100000 in
set_option maxHeartbeats 8000000 in
theorem lawHanded (s : ByteArray) (Bn : Nat) (v : Value) (ts : List Lx.Tok) (most : Int) (w : World) (hG : GS w) (hN : NG ≤ w.heap.size) (hs : s.size ≤ 140737488351232) (hb : w.cell? ⟨Bn, 0, none⟩ = some (.string s))
    (hts : (Lx.toks s.data.toList).1 = ts) (hv : ToksIn w v ts) (hm0 : most ≠ 0) (htl : ts.length ≤ 65537) :
    Calls Tryz.prog 28 #[.func (.func 53) #[] #[.pointer (some ⟨Bn, 0, none⟩)], v, .int .i64 most] w fun e w' => e = .returned (.bool true) ∧ Below w.heap.size w w' := by
  refine (callsIn_wide (n := 3)).1 ?_
  refine callsIn_of_wp_marks Tryz.func28 rfl trivial ?_ rfl
  simp only [Tryz.ntmps28, List.size_toArray, List.length_cons, List.length_nil, Nat.reduceAdd, Nat.reduceSub, Array.replicate_succ, Array.replicate_zero, List.push_toArray, List.append_toArray, List.nil_append, List.cons_append]
  have hdw : ∀ k : Nat, (Fence.wide.depth.isSome = true → 1 ≤ k) := fun k h => by cases h
  obtain ⟨A0, c0, rfl⟩ := hv.slice
  have HTL := Lib.hid htl
  have hnil : ∀ X, Sem.run Tryz.prog (binOp .eql 52 (.func (.func 53) #[] #[.pointer (some ⟨Bn, 0, none⟩)]) .nilFunc) X = .ok (.bool false) X := fun X => by kernel_rfl
  gi_wp2
  have hx0 : Boxed (w.alloc (.cells #[.slice A0 ts.length c0] 28)) w.heap.size 28 (.slice A0 ts.length c0) := Boxed.new _ _ _
  have hx1 : Boxed ((w.alloc (.cells #[.slice A0 ts.length c0] 28)).alloc (.cells #[.int .i64 most] 3)) (w.heap.size + 1) 3 (.int .i64 most) := by have := Boxed.new (w.alloc (.cells #[.slice A0 ts.length c0] 28)) 3 (.int .i64 most); rwa [World.size_alloc] at this
  have hx2 : Boxed (((w.alloc (.cells #[.slice A0 ts.length c0] 28)).alloc (.cells #[.int .i64 most] 3)).alloc (.cells #[.bool false] 4)) (w.heap.size + 1 + 1) 4 (.bool false) := by have := Boxed.new ((w.alloc (.cells #[.slice A0 ts.length c0] 28)).alloc (.cells #[.int .i64 most] 3)) 4 (.bool false); rwa [World.size_alloc, World.size_alloc] at this
  have hx3 : Boxed ((((w.alloc (.cells #[.slice A0 ts.length c0] 28)).alloc (.cells #[.int .i64 most] 3)).alloc (.cells #[.bool false] 4)).alloc (.cells #[.int .i64 0] 3)) (w.heap.size + 1 + 1 + 1) 3 (.int .i64 0) := by have := Boxed.new (((w.alloc (.cells #[.slice A0 ts.length c0] 28)).alloc (.cells #[.int .i64 most] 3)).alloc (.cells #[.bool false] 4)) 3 (.int .i64 0); rwa [World.size_alloc, World.size_alloc, World.size_alloc] at this
  have hy0 := ((hx0.alloc (.cells #[.int .i64 most] 3)).alloc (.cells #[.bool false] 4)).alloc (.cells #[.int .i64 0] 3)
  have hy1 := (hx1.alloc (.cells #[.bool false] 4)).alloc (.cells #[.int .i64 0] 3)
  have hy2 := hx2.alloc (.cells #[.int .i64 0] 3)
  have hbw : Below w.heap.size w ((((w.alloc (.cells #[.slice A0 ts.length c0] 28)).alloc (.cells #[.int .i64 most] 3)).alloc (.cells #[.bool false] 4)).alloc (.cells #[.int .i64 0] 3)) := grown_below ((((World.grownBy_alloc _ _ _).trans (World.grownBy_alloc _ _ _)).trans (World.grownBy_alloc _ _ _)).trans (World.grownBy_alloc _ _ _))
  have hsz : ((((w.alloc (.cells #[.slice A0 ts.length c0] 28)).alloc (.cells #[.int .i64 most] 3)).alloc (.cells #[.bool false] 4)).alloc (.cells #[.int .i64 0] 3)).heap.size = w.heap.size + 4 := by simp
  obtain ⟨W0, hW0⟩ : ∃ W0, (((w.alloc (.cells #[.slice A0 ts.length c0] 28)).alloc (.cells #[.int .i64 most] 3)).alloc (.cells #[.bool false] 4)).alloc (.cells #[.int .i64 0] 3) = W0 := ⟨_, rfl⟩
  rw [hW0] at hy0 hy1 hy2 hx3 hbw hsz ⊢
  clear hW0 hx0 hx1 hx2
  obtain ⟨L0, hL0⟩ : ∃ L0, w.heap.size = L0 := ⟨_, rfl⟩
  have hb0 : W0.cell? ⟨Bn, 0, none⟩ = some (.string s) := (World.cell?_of_block (hbw.block _ (World.block_lt_of_cell? w ⟨Bn, 0, none⟩ hb))).trans hb
  have HV := Lib.hid hv
  rw [hL0] at hy0 hy1 hy2 hx3 hsz ⊢
  have HL0 := Lib.hid hL0
  clear hv
  have hmx : (1 : Nat) ≤ 3 := by decide
  refine range_T (T := 102) (n₀ := NG) rfl hmx (gf := 53) (lb := #[.pointer (some ⟨Bn, 0, none⟩)]) rfl trivial (enters_of Tryz.func53 (by kernel_rfl) rfl)
    (lexAll_seq s Bn (3 - 1) W0 (hG.below hbw) (by have := hbw.size; omega) hs hb0) (Below.refl _ _) (by have := hbw.size; omega) (fun _ => rfl)
    (fun pre W => Boxed W L0 28 (.slice A0 ts.length c0) ∧ Boxed W (L0 + 1) 3 (.int .i64 most) ∧ Boxed W (L0 + 1 + 1) 4 (.bool false) ∧ Boxed W (L0 + 1 + 1 + 1) 3 (.int .i64 (pre.length : Nat)) ∧ Below w.heap.size w W ∧ ((pre.length : Nat) : Int) ≠ most)
    (fun c pre W => c = .ret ∧ Boxed W (L0 + 1 + 1) 4 (.bool true) ∧ Below w.heap.size w W)
    (fun x a₁ W => ∃ bx, W.heap[bx]? = some (.cells (cellsT x.2).toArray 26 (0, 0)) ∧ a₁ = { tmps := #[.func (.func 53) #[] #[.pointer (some ⟨Bn, 0, none⟩)], .slice A0 ts.length c0, .int .i64 most, undef, .pointer (some ⟨L0, 0, none⟩), .pointer (some ⟨L0 + 1, 0, none⟩), .pointer (some ⟨L0 + 1 + 1, 0, none⟩), .pointer (some ⟨L0 + 1 + 1 + 1, 0, none⟩), .int .i64 x.1, .pointer (some ⟨bx, 0, none⟩),
        .func (.func 53) #[] #[.pointer (some ⟨Bn, 0, none⟩)], .bool false, .func (.func 53) #[] #[.pointer (some ⟨Bn, 0, none⟩)], .int .i64 x.1, .agg #[.int .i64 x.2.pos, .int .i64 x.2.kind, .string ⟨x.2.s.toArray⟩, .int .i64 x.2.n], undef, undef, undef, undef, undef, undef, undef, undef, undef, undef, undef, undef, undef, undef, undef, undef, undef, undef, undef, undef, undef, undef, undef, undef, undef, undef], defers := [] })
    ?hI ?hIx ?hAx ⟨hy0, hy1, hy2, hx3, hbw, fun e => hm0 e.symm⟩ ?assign ?body ?done ?stop
  case hI =>
    rintro pre W W' row ⟨h0, h1, h2, h3, hb, hm⟩ hgr hr
    exact ⟨h0.kept hgr (turn_ne (W' := W') h0 (by decide) hr), h1.kept hgr (turn_ne (W' := W') h1 (by decide) hr), h2.kept hgr (turn_ne (W' := W') h2 (by decide) hr), h3.kept hgr (turn_ne (W' := W') h3 (by decide) hr), Below.turn hb hgr (fun r e => by have := (hr r e).1; have := hbw.size; omega), hm⟩
  case hIx =>
    rintro c pre W W' row ⟨h0, h2, hb⟩ hgr hr
    exact ⟨h0, h2.kept hgr (turn_ne (W' := W') h2 (by decide) hr), Below.turn hb hgr (fun r e => by have := (hr r e).1; have := hbw.size; omega)⟩
  case hAx =>
    rintro a₁ x W W' row ⟨bx, hbx, he⟩ hgr hr
    exact ⟨bx, (hgr.block _ (lt_of_block hbx) (turn_ne (W' := W') hbx (by decide) hr)).trans hbx, he⟩
  case assign =>
    intro l pre x W hl hi hrn
    dsimp only [encT]
    gi_wp2
    exact ⟨World.grownBy_alloc _ _ _, W.heap.size, heap_alloc_new _ _, rfl⟩
  case body =>
    rintro l pre x a₁ W hl ⟨h0, h1, h2, h3, hb2, hm⟩ ⟨bx, hbx, rfl⟩ hrn
    rw [hts] at hrn
    obtain ⟨hlt, hx⟩ := num_prefix hrn
    subst hx
    obtain ⟨t, ht⟩ : ∃ t, ts[pre.length]'hlt = t := ⟨_, rfl⟩
    obtain ⟨g, cur, fr, hA, hgb, hcur⟩ := HV.out.at hlt
    subst hA
    have hgb' := (hb2.block g (lt_of_block hgb)).trans hgb
    obtain ⟨t0, t1, t2, t3⟩ := toks_at hgb' hcur hlt
    rw [ht] at t0 t1 t2 t3 hbx ⊢
    have hgl := lt_of_block hgb'
    obtain ⟨x0, x1, x2, x3⟩ := four_cells hbx
    have hlx := lt_of_block hbx
    have c0' := h0.cell
    have c1' := h1.cell
    have c3' := h3.cell
    have f2' := h2.frozen
    have f3' := h3.frozen
    have c2' := h2.cell
    have l0' := h0.lt
    have l1' := h1.lt
    have l2' := h2.lt
    have l3' := h3.lt
    have hbq := tokDiff_eq t t
    rw [show (!(t == t)) = false by simp] at hbq
    obtain ⟨p, hp⟩ : ∃ p, pre.length = p := ⟨_, rfl⟩
    have HPL := Lib.hid (show (pre ++ [(p, t)]).length = p + 1 by rw [List.length_append, hp]; rfl)
    rw [hp] at h3 c3' hm hlt t0 t1 t2 t3 ⊢
    have HB2 := Lib.hid hb2
    have H0 := Lib.hid h0
    have H1 := Lib.hid h1
    have H2 := Lib.hid h2
    have H3 := Lib.hid h3
    have HM := Lib.hid hm
    have hpi : (p : Int) < (ts.length : Int) := by omega
    have hp0 : (0 : Int) ≤ (p : Int) := by omega
    have hpb : (p : Int) ≤ 1000000 := by have := HTL.out; omega
    have HDEC := Lib.hid (show decide (ts.length ≤ p) = false by simp; omega)
    clear hgb hgb' hcur hbx h0 h1 h2 h3 hb2 hm ht hp hrn hts
    by_cases hme : (p : Int) + 1 = most
    · have hmb : ((p : Int) + 1 == most) = true := by simp [hme]
      have HME := Lib.hid hme
      clear hme
      gi_wp2
      refine wpIn_region_quietR (by kernel_rfl) (by kernel_rfl) (by kernel_rfl) ?_
      repeat (quiet_step (fail))
      refine wpQuiet_nil ?_
      intro _ hw'
      obtain ⟨nq, hw''⟩ := hw'
      subst hw''
      simp only [HDEC.out]
      gi_wp2
      have k3 : Boxed (W.drewN nq) (L0 + 1 + 1 + 1) 3 (.int .i64 (p : Int)) := H3.out
      have k0 : Boxed (W.drewN nq) L0 28 (.slice (some ⟨g, 0, none⟩) ts.length c0) := H0.out
      have k1 : Boxed (W.drewN nq) (L0 + 1) 3 (.int .i64 most) := H1.out
      have k2 : Boxed (W.drewN nq) (L0 + 1 + 1) 4 (.bool false) := H2.out
      have hg3 := grown_set (W.drewN nq) (L0 + 1 + 1 + 1) 0 (.int .i64 ((p : Int) + 1))
      have j3 := Boxed.set (.int .i64 ((p : Int) + 1)) k3
      have j0 := k0.kept hg3 (by simp; omega)
      have j1 := k1.kept hg3 (by simp)
      have j2 := k2.kept hg3 (by simp)
      have kb : Below w.heap.size w ((W.drewN nq).setCell ⟨L0 + 1 + 1 + 1, 0, none⟩ (.int .i64 ((p : Int) + 1))) := Below.turn (Below.drewN HB2.out nq) hg3 (fun r e => by injection e with e; have := HL0.out; omega)
      have ko : KeepsOthers W ((W.drewN nq).setCell ⟨L0 + 1 + 1 + 1, 0, none⟩ (.int .i64 ((p : Int) + 1))) := (⟨Nat.le_refl _, fun _ _ h _ => h⟩ : KeepsOthers W (W.drewN nq)).trans (KeepsOthers.setCell _ _ _)
      have j2' := Boxed.set (.bool true) j2
      exact ⟨ko.trans (KeepsOthers.setCell _ _ _), rfl, j2', Below.turn kb (grown_set _ _ _ _) (fun r e => by injection e with e; have := HL0.out; omega)⟩
    · have hmb : ((p : Int) + 1 == most) = false := by simpa using hme
      have HME := Lib.hid hme
      clear hme
      gi_wp2
      refine wpIn_region_quietR (by kernel_rfl) (by kernel_rfl) (by kernel_rfl) ?_
      repeat (quiet_step (fail))
      refine wpQuiet_nil ?_
      intro _ hw'
      obtain ⟨nq, hw''⟩ := hw'
      subst hw''
      simp only [HDEC.out]
      gi_wp2
      have k3 : Boxed (W.drewN nq) (L0 + 1 + 1 + 1) 3 (.int .i64 (p : Int)) := H3.out
      have k0 : Boxed (W.drewN nq) L0 28 (.slice (some ⟨g, 0, none⟩) ts.length c0) := H0.out
      have k1 : Boxed (W.drewN nq) (L0 + 1) 3 (.int .i64 most) := H1.out
      have k2 : Boxed (W.drewN nq) (L0 + 1 + 1) 4 (.bool false) := H2.out
      have hg3 := grown_set (W.drewN nq) (L0 + 1 + 1 + 1) 0 (.int .i64 ((p : Int) + 1))
      have j3 := Boxed.set (.int .i64 ((p : Int) + 1)) k3
      have j0 := k0.kept hg3 (by simp; omega)
      have j1 := k1.kept hg3 (by simp)
      have j2 := k2.kept hg3 (by simp)
      have kb : Below w.heap.size w ((W.drewN nq).setCell ⟨L0 + 1 + 1 + 1, 0, none⟩ (.int .i64 ((p : Int) + 1))) := Below.turn (Below.drewN HB2.out nq) hg3 (fun r e => by injection e with e; have := HL0.out; omega)
      have ko : KeepsOthers W ((W.drewN nq).setCell ⟨L0 + 1 + 1 + 1, 0, none⟩ (.int .i64 ((p : Int) + 1))) := (⟨Nat.le_refl _, fun _ _ h _ => h⟩ : KeepsOthers W (W.drewN nq)).trans (KeepsOthers.setCell _ _ _)
      refine ⟨ko, (KeepT.of_grownBy (grown_drewN W nq none) (fun r e => nomatch e)).trans (KeepT.of_grownBy hg3 (fun r e => ?_)), ?_, ?_, ?_, ?_, kb, ?_⟩
      · injection e with e
        subst e
        refine ⟨by have := HL0.out; omega, ?_⟩
        rintro o ho ⟨cs, fr, rfl⟩
        have ho' := (show (W.drewN nq).heap[L0 + 1 + 1 + 1]? = _ from k3).symm.trans ho
        injection ho' with h
        injection h with h1 h2 h3
        exact absurd h2 (by decide)
      · exact j0
      · exact j1
      · exact j2
      · rw [HPL.out, show ((p + 1 : Nat) : Int) = (p : Int) + 1 by omega]
        exact j3
      · rw [HPL.out, show ((p + 1 : Nat) : Int) = (p : Int) + 1 by omega]
        exact HME.out
  case done =>
    rintro D xs W hD rfl ⟨h0, h1, h2, h3, hb2, hm⟩ hK
    have hxl : (num 0 (Lx.toks s.data.toList).1).length = ts.length := by rw [num_length, hts]
    rw [hxl] at h3
    have c0' := h0.cell
    have c3' := h3.cell
    have c2' := h2.cell
    have f2' := h2.frozen
    have l0' := h0.lt
    have l2' := h2.lt
    have l3' := h3.lt
    have H2 := Lib.hid h2
    have HB2 := Lib.hid hb2
    have HK := Lib.hid hK
    clear hK h0 h1 h2 h3 hb2 hm hxl
    gi_wp2
    have hb1 : Boxed (W.setCell ⟨L0 + 1 + 1, 0, none⟩ (.bool true)) (L0 + 1 + 1) 4 (.bool true) := Boxed.set _ H2.out
    have hK1 : (W.setCell ⟨L0 + 1 + 1, 0, none⟩ (.bool true)).heap[D]? = some (.deferred (some [])) := (KeepsOthers.setCell _ _ _).same D _ HK.out rfl
    have hbX : Below w.heap.size w (W.setCell ⟨L0 + 1 + 1, 0, none⟩ (.bool true)) := Below.turn HB2.out (grown_set _ _ _ _) (fun r e => by injection e with e; have := HL0.out; omega)
    have hb3 : Boxed ((W.setCell ⟨L0 + 1 + 1, 0, none⟩ (.bool true)).putObj D (.deferred none)) (L0 + 1 + 1) 4 (.bool true) := (World.putObj_heap_other (by omega)).trans hb1
    have hbY : Below w.heap.size w ((W.setCell ⟨L0 + 1 + 1, 0, none⟩ (.bool true)).putObj D (.deferred none)) := Below.turn hbX (grownBy_putObj' _ D _) (fun r e => by injection e with e; have := hbw.size; omega)
    have hc3 := hb3.cell
    have hl3 := hb3.lt
    refine ⟨by simp, .inl ⟨_, _, rfl, run_takeDeferred hK1, ?_⟩⟩
    refine ⟨.bool true, ?_, rfl, hbY⟩
    simp [results, Tryz.results28, go_sem, hc3, hl3]
  case stop =>
    rintro D c pre W hD hSp ⟨rfl, h2, hb2⟩ hK
    have HK := Lib.hid hK
    have H2 := Lib.hid h2
    have HB2 := Lib.hid hb2
    clear hK h2 hb2
    gi_wp2
    have hb1 : Boxed (W) (L0 + 1 + 1) 4 (.bool true) := H2.out
    have hK1 : (W).heap[D]? = some (.deferred (some [])) := HK.out
    have hbX : Below w.heap.size w (W) := HB2.out
    have hb3 : Boxed ((W).putObj D (.deferred none)) (L0 + 1 + 1) 4 (.bool true) := (World.putObj_heap_other (by omega)).trans hb1
    have hbY : Below w.heap.size w ((W).putObj D (.deferred none)) := Below.turn hbX (grownBy_putObj' _ D _) (fun r e => by injection e with e; have := hbw.size; omega)
    have hc3 := hb3.cell
    have hl3 := hb3.lt
    refine ⟨by simp, .inl ⟨_, _, rfl, run_takeDeferred hK1, ?_⟩⟩
    refine ⟨.bool true, ?_, rfl, hbY⟩
    simp [results, Tryz.results28, go_sem, hc3, hl3]

end Go.Proofs.YtbhdkkkaeabkhaaGreatDoor

namespace Go.Proofs.YtbhdkkkaeabkhaaGreatDoor.Lx
open Go
set_option linter.unusedSimpArgs false

theorem skip_spaces : ∀ n : Nat, skip false (List.replicate n 32) = []
  | 0 => rfl
  | n + 1 => by rw [List.replicate_succ, skip_blank (by rfl)]; exact skip_spaces n
theorem spaces_ok (n : Nat) (h : n ≤ 65536) : toks (List.replicate n 32) = ([], none) := by
  unfold toks
  rw [if_neg (by rw [List.length_replicate]; omega), go_nil (skip_spaces n)]
theorem spaces_bad (n : Nat) (h : 65536 < n) : toks (List.replicate n 32) = ([], some (2, 0)) := by
  unfold toks
  rw [if_pos (by rw [List.length_replicate]; omega)]

/-- '; ' so many times. -/
def semis : Nat → Bytes
  | 0 => []
  | n + 1 => 59 :: 32 :: semis n
theorem semis_snoc : ∀ n, semis (n + 1) = semis n ++ [59, 32]
  | 0 => rfl
  | n + 1 => by
    have := semis_snoc n
    show 59 :: 32 :: semis (n + 1) = 59 :: 32 :: (semis n ++ [59, 32])
    rw [this]
theorem semis_len : ∀ n, (semis n).length = 2 * n
  | 0 => rfl
  | n + 1 => by
    have := semis_len n
    show (semis n).length + 1 + 1 = _
    omega
theorem go_semis : ∀ (k f p i : Nat), i ≤ 4096 → 2 * k < f → (i + k ≤ 4096 → (go f p i (semis k)).2 = none ∧ (go f p i (semis k)).1.length = k) ∧ (4096 < i + k → (go f p i (semis k)).2 = some (3, p + 2 * (4096 - i)))
  | 0, f, p, i, hi, hf => by
    obtain ⟨f, rfl⟩ : ∃ f', f = f' + 1 := ⟨f - 1, by omega⟩
    rw [go_nil (by show skip false [] = []; rfl)]
    exact ⟨fun _ => ⟨rfl, rfl⟩, fun h => by omega⟩
  | k + 1, f, p, i, hi, hf => by
    obtain ⟨f, rfl⟩ : ∃ f', f = f' + 1 := ⟨f - 1, by omega⟩
    have hs : skip false (semis (k + 1)) = ([59] : Bytes) ++ ((32 :: semis k : Bytes)) := by
      show skip false (59 :: 32 :: semis k) = _
      rw [skip_begins (by decide)]
      rfl
    by_cases h96 : i = 4096
    · subst h96
      refine ⟨fun h => by omega, fun _ => ?_⟩
      rw [go]
      simp only [hs]
      have hb : begins 59 = true := by decide
      simp [hb]
      rw [semis_len, semis_len]
      omega
    · have hF : Form [59] ⟨0, 6, [59], 0⟩ := .sign 59 (by decide)
      have hle := skip_le false (semis k)
      have hq : p + ((semis (k + 1)).length - (([59] : Bytes) ++ ((32 :: semis k : Bytes))).length) = p := by
        rw [semis_len, List.length_append, List.length_cons, List.length_cons, List.length_nil, semis_len]
        omega
      have e1 : (32 :: semis k : Bytes).length = (semis k).length + 1 := rfl
      have e2 : skip false (32 :: semis k) = skip false (semis k) := skip_blank (by rfl)
      have e3 := semis_len k
      have ha : go f (p + 1) (i + 1) (32 :: semis k) = go f (p + 2) (i + 1) (semis k) :=
        go_ahead e2 (by rw [e2, e1]; omega) (by rw [e1]; omega) (by omega)
      obtain ⟨h1, h2⟩ := go_semis k f (p + 2) (i + 1) (by omega) (by omega)
      rw [go_tok hs hF ((sep_cons (by decide) (by decide)).after _ _) h96, hq]
      show (i + (k + 1) ≤ 4096 → (go f (p + 1) (i + 1) (32 :: semis k)).2 = none ∧ (go f (p + 1) (i + 1) (32 :: semis k)).1.length + 1 = k + 1) ∧ (4096 < i + (k + 1) → (go f (p + 1) (i + 1) (32 :: semis k)).2 = some (3, p + 2 * (4096 - i)))
      rw [ha]
      refine ⟨fun h => ?_, fun h => ?_⟩
      · obtain ⟨a1, a2⟩ := h1 (by omega)
        exact ⟨a1, by rw [a2]⟩
      · rw [h2 (by omega)]
        congr 2
        omega
theorem semis_toks (n : Nat) (h : n ≤ 4097) : (n ≤ 4096 → ∃ ts, toks (semis n) = (ts, none) ∧ ts.length = n) ∧ (n = 4097 → ∃ ts, toks (semis n) = (ts, some (3, 8192))) := by
  have hl : ¬ 65536 < (semis n).length := by rw [semis_len]; omega
  obtain ⟨h1, h2⟩ := go_semis n ((semis n).length + 1) 0 0 (by omega) (by rw [semis_len]; omega)
  unfold toks
  rw [if_neg hl]
  refine ⟨fun hn => ?_, fun hn => ?_⟩
  · obtain ⟨a1, a2⟩ := h1 (by omega)
    exact ⟨_, Prod.ext rfl a1, a2⟩
  · exact ⟨_, Prod.ext rfl (h2 (by omega))⟩

def semi : Tok := ⟨0, 6, [59], 0⟩
theorem semi_written : written semi = ([59], true) := by
  have h : Form [59] (Tok.bare semi) := .sign 59 (by decide)
  exact written_of_form h
theorem joinFrom_semis : ∀ (k i : Nat) (b : Bytes), 0 < i → b.length + 2 * k ≤ 65536 → ∃ b', joinFrom i b (List.replicate k semi) = some b' ∧ b'.length = b.length + 2 * k
  | 0, i, b, _, _ => ⟨b, rfl, by omega⟩
  | k + 1, i, b, hi, hb => by
    rw [List.replicate_succ]
    unfold joinFrom
    rw [semi_written, if_pos rfl]
    have hst : joinStep i b [59] = b ++ [32, 59] := by
      unfold joinStep
      rw [if_neg (by omega), if_pos hi]
      simp
    rw [hst]
    obtain ⟨b', h1, h2⟩ := joinFrom_semis k (i + 1) (b ++ [32, 59]) (by omega) (by simp; omega)
    exact ⟨b', h1, by rw [h2]; simp; omega⟩
theorem semis_join (k : Nat) (h : k + 1 ≤ 4097) : (k + 1 ≤ 4096 → ∃ b, join (List.replicate (k + 1) semi) = (b, 0) ∧ b.length = 2 * k + 1) ∧ (k + 1 = 4097 → join (List.replicate (k + 1) semi) = ([], 3)) := by
  have hj : ∃ b', joinFrom 0 [] (List.replicate (k + 1) semi) = some b' ∧ b'.length = 2 * k + 1 := by
    rw [List.replicate_succ]
    unfold joinFrom
    rw [semi_written, if_pos rfl]
    have hst : joinStep 0 [] [59] = [59] := rfl
    rw [hst]
    obtain ⟨b', h1, h2⟩ := joinFrom_semis k 1 [59] (by omega) (by simp; omega)
    exact ⟨b', h1, by rw [h2]; simp; omega⟩
  obtain ⟨b', h1, h2⟩ := hj
  unfold join
  rw [h1]
  simp only [List.length_replicate]
  rw [if_neg (by omega)]
  refine ⟨fun hn => ⟨b', by rw [if_neg (by omega)], h2⟩, fun hn => by rw [if_pos (by omega)]⟩

theorem name31 : (toks (List.replicate 31 97)).2 = none ∧ (toks (List.replicate 31 97)).1.length = 1 ∧ (join [⟨0, 1, List.replicate 31 97, 0⟩]).2 = 0 := ⟨by kernel_rfl, by kernel_rfl, by kernel_rfl⟩
theorem name32 : (toks (List.replicate 32 97)).2 = none ∧ (toks (List.replicate 32 97)).1.length = 1 ∧ (join [⟨0, 1, List.replicate 32 97, 0⟩]).2 = 0 := ⟨by kernel_rfl, by kernel_rfl, by kernel_rfl⟩
theorem name33 : (toks (List.replicate 33 97)).2 = some (2, 32) ∧ (join [⟨0, 1, List.replicate 33 97, 0⟩]).2 = 1 := ⟨by kernel_rfl, by kernel_rfl⟩

end Go.Proofs.YtbhdkkkaeabkhaaGreatDoor.Lx

namespace Go.Proofs.YtbhdkkkaeabkhaaGreatDoor
open Go.RowKit Go.Shelf
set_option linter.unusedSimpArgs false
set_option linter.unusedVariables false

theorem lawWithin (n lo hi : Int) (k : Nat) (hk : hi - lo + 1 = (k : Int)) (hk0 : 0 < k) (hk1 : k ≤ 100000) (hl0 : -100000 ≤ lo) (hl1 : lo ≤ 100000) (hn0 : -9223372036854775808 ≤ n) (hn1 : n ≤ 9223372036854775807) (w : World) :
    Calls Tryz.prog 23 #[.int .i64 n, .int .i64 lo, .int .i64 hi] w fun e w' => ∃ r : Int, e = .returned (.int .i64 (lo + r)) ∧ 0 ≤ r ∧ r < k ∧ w' = w := by
  obtain ⟨q, hq⟩ : ∃ q, n.tmod (k : Int) = q := ⟨_, rfl⟩
  have hq1 : q < (k : Int) := by rw [← hq]; exact Int.tmod_lt_of_pos n (by omega)
  have hq0 : -(k : Int) < q := by
    rw [← hq]
    have := Int.tmod_lt_of_pos (-n) (show (0 : Int) < (k : Int) by omega)
    rw [Int.neg_tmod] at this
    omega
  have hk2 : (1 : Int) ≤ (k : Int) := by omega
  have hk3 : (k : Int) ≤ 100000 := by omega
  have hkz : ¬ (k : Int) = 0 := by omega
  have hh0 : -100000 ≤ hi := by omega
  have hh1 : hi ≤ 200000 := by omega
  by_cases hneg : q < 0
  · go_enter Tryz.func23, Tryz.ntmps23
    go_wp2
    go_ret
    exact ⟨q + hi - lo + 1, rfl, by omega, by omega, rfl⟩
  · go_enter Tryz.func23, Tryz.ntmps23
    go_wp2
    go_ret
    exact ⟨q, rfl, by omega, by omega, rfl⟩

/-- A row of bytes, filled up to m. -/
def Fill (w : World) (g N m : Nat) (c : UInt8) : Prop := ∃ cur, w.heap[g]? = some (.cells cur 5 (0, 0)) ∧ cur.size = N ∧ ∀ j, j < m → cur[j]? = some (.int .u8 (c.toNat : Int))
theorem Fill.step {w : World} {g N m : Nat} {c : UInt8} (h : Fill w g N m c) (hm : m < N) : Fill (w.setCell ⟨g, m, none⟩ (.int .u8 (c.toNat : Int))) g N (m + 1) c := by
  obtain ⟨cur, h1, h2, h3⟩ := h
  refine ⟨cur.setIfInBounds m (.int .u8 (c.toNat : Int)), ?_, by simp [h2], fun j hj => ?_⟩
  · simp [World.setCell, Array.getElem?_modify, h1]
  · rw [Array.getElem?_setIfInBounds]
    by_cases e : m = j
    · subst e
      rw [if_pos rfl, if_pos (by omega)]
    · rw [if_neg e]
      exact h3 j (by omega)
theorem Fill.facts {w : World} {g N m j : Nat} {c : UInt8} (h : Fill w g N m c) (hj : j < N) : (∃ x, w.cell? ⟨g, j, none⟩ = some x) ∧ w.frozen? ⟨g, j, none⟩ = false ∧ g < w.heap.size := by
  obtain ⟨cur, h1, h2, h3⟩ := h
  refine ⟨?_, free_of h1 j, lt_of_block h1⟩
  rw [cell_of h1, Array.getElem?_eq_getElem (by omega)]
  exact ⟨_, rfl⟩
theorem Fill.own {w : World} {g N base : Nat} {c : UInt8} (h : Fill w g N N c) (hb : base ≤ g) (hN : N ≤ 9223372036854775807) : OwnB w base (.slice (some ⟨g, 0, none⟩) N N) (List.replicate N c) := by
  obtain ⟨cur, h1, h2, h3⟩ := h
  have hl : (List.replicate N c).length = N := List.length_replicate
  unfold OwnB
  rw [hl]
  refine ⟨by rw [bytesV_length, hl, Nat.mul_one], .inr ⟨g, N, cur, rfl, hb, h1, Nat.le_refl _, by unfold maxLen; omega, by omega, ?_⟩⟩
  apply List.ext_getElem?
  intro j
  unfold bytesV
  rw [List.map_replicate, Nat.mul_one, List.getElem?_take]
  by_cases hj : j < N
  · rw [if_pos hj, Array.getElem?_toList, h3 j hj, List.getElem?_replicate, if_pos hj]
  · rw [if_neg hj, List.getElem?_replicate, if_neg hj]
theorem LW.of_below {w W : World} (hG : GL w) (hN : NG ≤ w.heap.size) (hb : Below w.heap.size w W) : LW w W := ⟨hb, hG.below hb, Nat.le_trans hN hb.size⟩
theorem Below.set {w W : World} {g j : Nat} {v : Value} (h : Below w.heap.size w W) (hg : w.heap.size ≤ g) : Below w.heap.size w (W.setCell ⟨g, j, none⟩ v) := Below.turn h (grown_set W g j v) (fun r e => by injection e with e; omega)

theorem OwnB.turn {W W' : World} {row : Option Nat} {v : Value} {l : List UInt8} {base T : Nat} (h : OwnB W base v l) (ht : 5 ≠ T) (hg : W.grownBy W' row) (hr : ∀ r, row = some r → ∃ c, W.heap[r]? = some (.cells c T (0, 0))) : OwnB W' base v l := by
  refine World.ownsRow.kept h hg ?_
  cases hv : v.ownBlock with
  | none => exact .inl rfl
  | some g =>
    right
    obtain ⟨_, c, hc⟩ := row_kind h g hv
    intro e
    obtain ⟨c', hc'⟩ := hr g e.symm
    rw [hc] at hc'
    injection hc' with hc'
    injection hc' with _ h2 _
    exact ht h2
theorem OwnT.turn2 {W W' : World} {row : Option Nat} {v : Value} {l : List Lx.Tok} {base T : Nat} (h : OwnT W base v l) (ht : 26 ≠ T) (hg : W.grownBy W' row) (hr : ∀ r, row = some r → ∃ c, W.heap[r]? = some (.cells c T (0, 0))) : OwnT W' base v l := by
  refine World.ownsRow.kept h hg ?_
  cases hv : v.ownBlock with
  | none => exact .inl rfl
  | some g =>
    right
    obtain ⟨_, c, hc⟩ := row_kind h g hv
    intro e
    obtain ⟨c', hc'⟩ := hr g e.symm
    rw [hc] at hc'
    injection hc' with hc'
    injection hc' with _ h2 _
    exact ht h2
theorem OwnT.toks' {w : World} {base : Nat} {v : Value} {l : List Lx.Tok} (h : OwnT w base v l) : ToksIn w v l := by
  rcases h.2 with ⟨rfl, hn⟩ | ⟨g, cap, cur, rfl, hbg, hgb, hcap, hcm, hcs, htk⟩
  · exact .inl ⟨List.length_eq_zero_iff.1 hn, none, 0, rfl⟩
  · exact .inr ⟨g, cap, cur, (0, 0), rfl, hgb, htk⟩

theorem makeBytes (N : Nat) (L : Int) (hL : L = (N : Int)) (hN : N ≤ 1000000) (W : World) : (Instr.makeSlice 66 (.int .i64 L) (.int .i64 L)).run Tryz.prog W = .ok (.slice (some ⟨W.heap.size, 0, none⟩) N N) (W.alloc (.cells (madeCells #[.int .u8 0] N) 5)) := by
  obtain ⟨i0, hi, hz0, hz1, hz2⟩ := info_parts infoU8
  subst hL
  have h := run_make (P := Tryz.prog) W 66 5 i0 (.int .u8 0) Tryz.underlying66 hi hz0 .i64 .i64 (N : Int) (N : Int) (by omega) (Int.le_refl _) (by rw [hz2]; omega) (by omega)
  rw [hz1] at h
  simp only [Int.toNat_natCast, Nat.mul_one] at h
  exact h
theorem fillNew (W : World) (N : Nat) (c : UInt8) : Fill (W.alloc (.cells (madeCells #[.int .u8 0] N) 5)) W.heap.size N 0 c :=
  ⟨_, heap_alloc_new W _, size_madeCells _ _, fun j hj => by omega⟩

theorem lwRefusedT {w W : World} (h : LW w W) (g x y : Nat) (hR : IsRef W g x y) (hx : x ≤ 100000) (hy : y ≤ 1000000) :
    Calls Tryz.prog 17 #[.iface 74 (.pointer (some ⟨g, 0, none⟩)), .int .i64 (x : Int), .int .i64 (y : Int)] W fun e W' => e = .returned (.bool true) ∧ LW w W' := by
  have := lwRefused h g x y x y hR (by omega) hy
  simpa using this

set_option maxRecDepth 100000 in
set_option maxHeartbeats 8000000 in
theorem lawLimits (n : Int) (hn0 : -9223372036854775808 ≤ n) (hn1 : n ≤ 9223372036854775807) (k : Int) (hk0 : -9223372036854775808 ≤ k) (hk1 : k ≤ 9223372036854775807) (w : World) (hG : GL w) (hN : NG ≤ w.heap.size) : Calls Tryz.prog 9 #[.int .i64 n, .int .i64 k] w fun e w' => e = .returned (.bool true) ∧ LW w w' := by
  have H0 := LW.refl hG hN
  have hw1 := lawWithin n (-1) 1 3 rfl (by decide) (by decide) (by decide) (by decide) hn0 hn1 w
  have hw2 := lawWithin k 0 2 3 rfl (by decide) (by decide) (by decide) (by decide) hk0 hk1 w
  clear hn0 hn1 hk0 hk1
  go_enter Tryz.func9, Tryz.ntmps9
  go_upto_region 3 with (first
    | (go_at_call 23; refine hw1.mono ?_; clear hw1; rintro e W1 ⟨r, rfl, hr0, hr1, hWe⟩; rw [hWe]; clear hWe)
    | (go_at_call 23; refine hw2.mono ?_; clear hw2; rintro e W1 ⟨q, rfl, hq0, hq1, hWe⟩; rw [hWe]; clear hWe))
  obtain ⟨d, hd⟩ : ∃ d : Int, -1 + r = d := ⟨_, rfl⟩
  rw [hd]
  have hd0 : -1 ≤ d := by omega
  have hd1 : d ≤ 1 := by omega
  have hqq : q = 0 ∨ q = 1 ∨ q = 2 := by omega
  clear hd hr0 hr1 hq0 hq1
  rcases hqq with rfl | rfl | rfl
  · -- the longest text
    obtain ⟨N, hNd⟩ : ∃ N : Nat, (65536 : Int) + d = (N : Int) := ⟨(65536 + d).toNat, by omega⟩
    have hN1 : N ≤ 65537 := by omega
    have hmk := makeBytes N (65536 + d) hNd (by omega)
    have HN1 := Lib.hid hNd
    clear hNd
    go_upto_region 5 with fail
    have hfill := fillNew w N 32
    have hb0 : Below w.heap.size w (w.alloc (.cells (madeCells #[.int .u8 0] N) 5)) := grown_below (World.grownBy_alloc _ _ _)
    obtain ⟨W2, hW2⟩ : ∃ W2, w.alloc (.cells (madeCells #[.int .u8 0] N) 5) = W2 := ⟨_, rfl⟩
    rw [hW2] at hfill hb0 ⊢
    have HF := Lib.hid hfill
    have hN2 : (N : Int) ≤ 65537 := by omega
    clear hW2 hfill hmk
    go_wp2_with fail
    go_loopg [7] N (fun kk v wr => ∃ (m : Nat), kk = N - m ∧ v = .int .i64 (m : Int) ∧ m ≤ N ∧ Fill wr w.heap.size N m 32 ∧ Below w.heap.size w wr)
    case atStart => exact ⟨0, rfl, rfl, Nat.zero_le _, HF.out, hb0⟩
    case round =>
      obtain ⟨m, hn, rfl, hm, hf, hb⟩ := hrel
      have HN := Lib.hid hn
      clear hn
      have hi0 : (0 : Int) ≤ (m : Int) := by omega
      by_cases hlt : m < N
      · have hi : (m : Int) < (N : Int) := by omega
        obtain ⟨⟨x, hc⟩, hfz, hgl⟩ := hf.facts hlt
        have HFS := Lib.hid (hf.step hlt)
        have HBS := Lib.hid (Below.set (j := m) (v := .int .u8 (((32 : UInt8).toNat : Nat) : Int)) hb (Nat.le_refl _))
        clear hf
        go_wp2
        go_roundg (N - (m + 1))
        case measure => have := HN.out; omega
        case rel => exact ⟨m + 1, rfl, by simp, hlt, HFS.out, HBS.out⟩
      · have hi : ¬ (m : Int) < (N : Int) := by omega
        have hme : m = N := by omega
        subst hme
        have hst := strByte (hf.own (Nat.le_refl _) (by omega))
        have hLW := LW.of_below hG hN hb
        by_cases hbig : 65536 < m
        · have hdp : (0 : Int) < d := by have := HN1.out; omega
          have hdp2 : ¬ d ≤ 0 := by omega
          have hk := lwTokensBad hLW ⟨(List.replicate m 32).toArray⟩ (by show (List.replicate m (32 : UInt8)).length ≤ _; rw [List.length_replicate]; omega) (Lx.spaces_bad m hbig)
          clear hf
          go_wp2_with (first
            | (go_at_call 16; refine hk.mono ?_; clear hk; rintro e W4 ⟨g, rfl, H4, hR⟩)
            | (go_at_call 17; refine (lwRefusedT H4 g 0 2 hR (by decide) (by decide)).mono ?_; rintro e W5 ⟨rfl, H5⟩)
            | (go_at_call 3; refine (lwRuns H5).mono ?_; rintro e W6 ⟨rfl, H6⟩))
          go_ret
          exact ⟨rfl, H6⟩
        · have hdp : ¬ (0 : Int) < d := by have := HN1.out; omega
          have hdp2 : d ≤ 0 := by omega
          have hk := lwTokensOk hLW ⟨(List.replicate m 32).toArray⟩ (by show (List.replicate m (32 : UInt8)).length ≤ _; rw [List.length_replicate]; omega) (Lx.spaces_ok m (by omega))
          clear hf
          go_wp2_with (first
            | (go_at_call 16; refine hk.mono ?_; clear hk; rintro e W4 ⟨v, rfl, H4, hv⟩; obtain ⟨a4, c4, rfl⟩ := hv.slice)
            | (go_at_call 3; refine (lwRuns H4).mono ?_; rintro e W6 ⟨rfl, H6⟩))
          go_ret
          exact ⟨by show Ending.returned (.bool (!decide (0 < d))) = _; rw [decide_eq_false (show ¬ (0 : Int) < d by omega)]; rfl, H6⟩
  · -- the most tokens
    obtain ⟨N, hNd⟩ : ∃ N : Nat, (4096 : Int) + d = (N : Int) := ⟨(4096 + d).toNat, by omega⟩
    have hN1 : N ≤ 4097 := by omega
    have hN0 : 4095 ≤ N := by omega
    obtain ⟨i0, hi0, hz0, hz1, hz2⟩ := info_parts infoU8
    obtain ⟨j0, hj0, hy0, hy1, hy2⟩ := info_parts infoTok
    obtain ⟨Wa, hra, hoa, hga⟩ := run_make_own (P := Tryz.prog) w w.heap.size 66 5 i0 _ 1 Tryz.underlying66 hi0 hz0 hz1 .i64 .i64 9000 (by rw [hz2]; omega) (by unfold maxLen; omega) (Nat.le_refl _)
    obtain ⟨Wb, hrb, hob, hgb⟩ := run_make_own (P := Tryz.prog) Wa w.heap.size 28 26 j0 _ 4 Tryz.underlying28 hj0 hy0 hy1 .i64 .i64 4100 (by rw [hy2]; omega) (by unfold maxLen; omega) hga.size
    have hOB : OwnB Wb w.heap.size (.slice (some ⟨w.heap.size, 0, none⟩) 0 9000) [] := World.ownsRow.kept hoa hgb (.inr (by simp [Value.ownBlock]))
    have hOT : OwnT Wb w.heap.size (.slice (some ⟨Wa.heap.size, 0, none⟩) 0 4100) [] := hob
    have hb0 : Below w.heap.size w Wb := grown_below (hga.trans hgb)
    have hra' : (Instr.makeSlice 66 (.int .i64 0) (.int .i64 9000)).run Tryz.prog w = .ok (.slice (some ⟨w.heap.size, 0, none⟩) 0 9000) Wa := hra
    have hrb' : (Instr.makeSlice 28 (.int .i64 0) (.int .i64 4100)).run Tryz.prog Wa = .ok (.slice (some ⟨Wa.heap.size, 0, none⟩) 0 4100) Wb := hrb
    have HN1 := Lib.hid hNd
    have HOB := Lib.hid hOB
    have HOT := Lib.hid hOT
    clear hoa hob hOB hOT hga hgb hra hrb
    go_upto_region 14 with fail
    clear hra' hrb'
    go_wp2_with fail
    go_loopg [10, 11, 12] N (fun kk vb vt v wr => ∃ (m : Nat), kk = N - m ∧ v = .int .i64 (m : Int) ∧ m ≤ N ∧ OwnB wr w.heap.size vb (Lx.semis m) ∧ OwnT wr w.heap.size vt (List.replicate m Lx.semi) ∧ Below w.heap.size w wr)
    case atStart => exact ⟨0, rfl, rfl, Nat.zero_le _, HOB.out, HOT.out, hb0⟩
    case round =>
      obtain ⟨m, hn, rfl, hm, hob, hot, hb⟩ := hrel
      have HN := Lib.hid hn
      clear hn
      have him : (0 : Int) ≤ (m : Int) := by omega
      by_cases hlt : m < N
      · have hi : (m : Int) < 4096 + d := by have := HN1.out; omega
        have hob' : wr.ownsRow w.heap.size 5 1 u10 (2 * m) (bytesV (Lx.semis m)) := by have := hob; unfold OwnB at this; rw [Lx.semis_len] at this; exact this
        have HOB2 := Lib.hid hob
        have HOT2 := Lib.hid hot
        have hsz := hb.size
        clear hob hot
        have hlt2 : (List.replicate m Lx.semi).length = m := List.length_replicate
        have hot' : wr.ownsRow w.heap.size 26 4 u11 m ((List.replicate m Lx.semi).flatMap cellsT) := by have := HOT2.out; unfold OwnT at this; rw [hlt2] at this; exact this
        have htk : ∀ X, Calls Tryz.prog 15 #[.int .i64 6, .int .i64 0, .int .i64 0, .string ⟨#[59]⟩] X fun e X' => e = .returned (.agg #[.int .i64 0, .int .i64 6, .string ⟨#[59]⟩, .int .i64 0]) ∧ X.grownBy X' none := fun X => lawToken 6 0 0 ⟨#[59]⟩ X
        go_wp2_with (first
          | (at_builtin; refine Lib.wpList_append_own_string _ rfl _ _ 66 9 rfl w.heap.size 5 i0 Tryz.underlying66 Tryz.underlying9 hi0 hz0 hz1 hz2 u10 (2 * m) (bytesV (Lx.semis m)) rfl hob' ⟨#[59, 32]⟩ rfl (by unfold maxLen; show 2 * m + 2 ≤ _; omega) (by show 2 * m + 2 ≤ _; omega) hsz ?_; intro vb2 w2 hown2 hgrow2 _; have hot2 := OwnT.turn2 HOT2.out (by decide) hgrow2 (fun r e => (row_kind hob' r e).2); have hb2 := Below.turn hb hgrow2 (fun r e => (row_kind hob' r e).1))
          | (go_at_call 15; refine (htk _).mono ?_; rintro e w3 ⟨rfl, hg3⟩; have hown3 := World.ownsRow.kept hown2 hg3 (by cases Value.ownBlock _ <;> simp); have hot3 : OwnT w3 w.heap.size u11 (List.replicate m Lx.semi) := World.ownsRow.kept hot2 hg3 (by cases Value.ownBlock _ <;> simp); have hb3 := Below.turn hb2 hg3 (fun r e => nomatch e); have hsz3 := hb3.size; have hot3' : w3.ownsRow w.heap.size 26 4 u11 m ((List.replicate m Lx.semi).flatMap cellsT) := (by have := hot3; unfold OwnT at this; rw [hlt2] at this; exact this))
          | (at_builtin; refine wpList_append_own _ rfl _ _ 28 rfl w.heap.size 26 j0 _ 4 40 Tryz.underlying28 hj0 hy0 hy1 hy2 rfl (by decide) _ _ _ rfl (hot3'.alloc _) ⟨w3.heap.size, 0, none⟩ 1 1 (cellsT Lx.semi) rfl rfl (cells_new _ _ _) (by simp [cellsT, Value.oneCell']) (by unfold maxLen; omega) (by omega) (by simp; omega) ?_; intro vt4 w4 hown4 hgrow4 _))
        have hg4 : (w3.alloc (.cells #[.int .i64 0, .int .i64 6, .string ⟨#[59]⟩, .int .i64 0] 26)).grownBy w4 u11.ownBlock := hgrow4
        have hob3 : OwnB w3 w.heap.size vb2 (Lx.semis (m + 1)) := by
          unfold OwnB
          rw [Lx.semis_len, Lx.semis_snoc, show bytesV (Lx.semis m ++ [59, 32]) = bytesV (Lx.semis m) ++ Lib.strCells ⟨#[59, 32]⟩ by unfold bytesV Lib.strCells; rw [List.map_append]]
          exact hown3
        have hob4 := OwnB.turn (hob3.alloc (.cells #[.int .i64 0, .int .i64 6, .string ⟨#[59]⟩, .int .i64 0] 26)) (by decide) hg4 (fun r e => (row_kind (hot3'.alloc _) r e).2)
        have hot4 : OwnT w4 w.heap.size vt4 (List.replicate (m + 1) Lx.semi) := by
          unfold OwnT
          rw [List.length_replicate, List.replicate_succ', List.flatMap_append]
          simpa using hown4
        have hb4 := Below.turn (hb3.alloc hsz3 _) hg4 (fun r e => (row_kind hot3' r e).1)
        go_roundg (N - (m + 1))
        case measure => have := HN.out; omega
        case rel => exact ⟨m + 1, rfl, by simp, hlt, hob4, hot4, hb4⟩
      · have hi : ¬ (m : Int) < 4096 + d := by have := HN1.out; omega
        have hme : m = N := by omega
        subst hme
        have hst := strByte hob
        have hLW := LW.of_below hG hN hb
        have hts := hot.toks'
        obtain ⟨B, hB⟩ : ∃ B : ByteArray, (⟨(Lx.semis m).toArray⟩ : ByteArray) = B := ⟨_, rfl⟩
        have hBd : B.data.toList = Lx.semis m := by rw [← hB]
        have hBs : B.size ≤ 140737488351232 := by rw [← len_size, hBd, Lx.semis_len]; omega
        rw [hB] at hst
        obtain ⟨hT1, hT2⟩ := Lx.semis_toks m (by omega)
        obtain ⟨hJ1, hJ2⟩ := Lx.semis_join (m - 1) (by omega)
        rw [show m - 1 + 1 = m by omega] at hJ1 hJ2
        have hbnd : ∀ t ∈ List.replicate m Lx.semi, t.s.length ≤ 1000000000 ∧ -9223372036854775808 ≤ t.n ∧ t.n ≤ 9223372036854775807 := by
          intro t ht
          rw [List.eq_of_mem_replicate ht]
          decide
        have hrl : (List.replicate m Lx.semi).length = m := List.length_replicate
        obtain ⟨av, cv, hsl⟩ := hts.slice
        rw [hrl] at hsl
        have hm2 : (m : Int) ≤ 4097 := by omega
        by_cases hbig : m = 4097
        · have hdp : (0 : Int) < d := by have := HN1.out; omega
          obtain ⟨ts, hT⟩ := hT2 hbig
          have hk := lwTokensBad hLW.self B hBs (by rw [hBd]; exact hT)
          have hj : ∀ Z X, LW wr X → LW Z X → Calls Tryz.prog 18 #[.slice av m cv] X fun e X' => e = .returned (.tuple #[.string ⟨#[]⟩, .int .i64 3]) ∧ LW Z X' := fun Z X hX hZ => by
            have := lwJoin hZ (hts.below hX.b) (by rw [hrl]; omega) hbnd
            rw [hJ2 hbig, hsl] at this
            exact this
          subst hsl
          clear hob hot hts hT hT1 hT2 hJ1 hJ2 hB hBd hbnd hbig
          go_wp2_with (first
            | (go_at_call 16; refine hk.mono ?_; clear hk; rintro e W4 ⟨g, rfl, H4, hR⟩)
            | (go_at_call 18; refine (hj _ _ H4 H4.self).mono ?_; clear hj; rintro e W6 ⟨rfl, H6⟩; have hR6 : IsRef W6 g 8192 3 := (H6.b.block g (lt_of_block hR)).trans hR)
            | (go_at_call 17; refine (lwRefusedT H6.self g 8192 3 hR6 (by decide) (by decide)).mono ?_; rintro e W7 ⟨rfl, H7⟩; have H8 := hLW.trans (H4.trans (H6.trans H7)))
            | (go_at_call 3; refine (lwRuns H8).mono ?_; rintro e W9 ⟨rfl, H9⟩))
          go_ret
          exact ⟨rfl, H9⟩
        · have hdp : ¬ (0 : Int) < d := by have := HN1.out; omega
          obtain ⟨ts, hT, htl⟩ := hT1 (by omega)
          obtain ⟨b, hJ, hbl⟩ := hJ1 (by omega)
          have hk := lwTokensOk hLW.self B hBs (by rw [hBd]; exact hT)
          have hj : ∀ X, LW wr X → Calls Tryz.prog 18 #[.slice av m cv] X fun e X' => e = .returned (.tuple #[.string ⟨b.toArray⟩, .int .i64 0]) ∧ LW wr X' := fun X hX => by
            have := lwJoin hX (hts.below hX.b) (by rw [hrl]; omega) hbnd
            rw [hJ, hsl] at this
            exact this
          obtain ⟨S, hS⟩ : ∃ S : ByteArray, (⟨b.toArray⟩ : ByteArray) = S := ⟨_, rfl⟩
          have hSs : S.size = 2 * m - 1 := by
            rw [← hS]
            show b.length = _
            omega
          rw [hS] at hj
          have hlenq : (4096 : Int) + d = (m : Int) := HN1.out
          have hsq : (S.size : Int) = 2 * (m : Int) - 1 := by omega
          subst hsl
          clear hob hot hts hT hT1 hT2 hJ1 hJ2 hB hBd hbnd hbig hJ hS hSs
          go_wp2_with (first
            | (go_at_call 16; refine hk.mono ?_; clear hk; rintro e W4 ⟨v, rfl, H4, hv⟩; obtain ⟨a4, c4, rfl⟩ := hv.slice)
            | (go_at_call 18; refine (hj _ H4).mono ?_; clear hj; rintro e W6 ⟨rfl, H6⟩; have H8 := hLW.trans H6)
            | (go_at_call 3; refine (lwRuns H8).mono ?_; rintro e W9 ⟨rfl, H9⟩))
          go_ret
          exact ⟨rfl, H9⟩
  · -- the longest name
    obtain ⟨N, hNd⟩ : ∃ N : Nat, (32 : Int) + d = (N : Int) := ⟨(32 + d).toNat, by omega⟩
    have hN1 : N ≤ 33 := by omega
    have hmk := makeBytes N (32 + d) hNd (by omega)
    have HN1 := Lib.hid hNd
    clear hNd
    go_upto_region 25 with fail
    have hfill := fillNew w N 97
    have hb0 : Below w.heap.size w (w.alloc (.cells (madeCells #[.int .u8 0] N) 5)) := grown_below (World.grownBy_alloc _ _ _)
    obtain ⟨W2, hW2⟩ : ∃ W2, w.alloc (.cells (madeCells #[.int .u8 0] N) 5) = W2 := ⟨_, rfl⟩
    rw [hW2] at hfill hb0 ⊢
    have HF := Lib.hid hfill
    have hN2 : (N : Int) ≤ 65537 := by omega
    clear hW2 hfill hmk
    go_wp2_with fail
    go_loopg [18] N (fun kk v wr => ∃ (m : Nat), kk = N - m ∧ v = .int .i64 (m : Int) ∧ m ≤ N ∧ Fill wr w.heap.size N m 97 ∧ Below w.heap.size w wr)
    case atStart => exact ⟨0, rfl, rfl, Nat.zero_le _, HF.out, hb0⟩
    case round =>
      obtain ⟨m, hn, rfl, hm, hf, hb⟩ := hrel
      have HN := Lib.hid hn
      clear hn
      have hi0 : (0 : Int) ≤ (m : Int) := by omega
      by_cases hlt : m < N
      · have hi : (m : Int) < (N : Int) := by omega
        obtain ⟨⟨x, hc⟩, hfz, hgl⟩ := hf.facts hlt
        have HFS := Lib.hid (hf.step hlt)
        have HBS := Lib.hid (Below.set (j := m) (v := .int .u8 (((97 : UInt8).toNat : Nat) : Int)) hb (Nat.le_refl _))
        clear hf
        go_wp2
        go_roundg (N - (m + 1))
        case measure => have := HN.out; omega
        case rel => exact ⟨m + 1, rfl, by simp, hlt, HFS.out, HBS.out⟩
      · have hi : ¬ (m : Int) < (N : Int) := by omega
        have hme : m = N := by omega
        subst hme
        have hst := strByte (hf.own (Nat.le_refl _) (by omega))
        have hLW := LW.of_below hG hN hb
        obtain ⟨B, hB⟩ : ∃ B : ByteArray, (⟨(List.replicate m 97).toArray⟩ : ByteArray) = B := ⟨_, rfl⟩
        have hBd : B.data.toList = List.replicate m 97 := by rw [← hB]
        have hBs : B.size ≤ 140737488351232 := by rw [← len_size, hBd, List.length_replicate]; omega
        rw [hB] at hst
        have hst2 : ∀ X, LW wr X → (convert 66 9 (.slice (some ⟨w.heap.size, 0, none⟩) m m)).run Tryz.prog X = .ok (.string B) X := by
          intro X hX
          rw [← hB]
          obtain ⟨cur, h1, h2, h3⟩ := hf
          have hgl := lt_of_block h1
          exact strByte (Fill.own ⟨cur, (hX.b.block _ hgl).trans h1, h2, h3⟩ (Nat.le_refl _) (by omega))
        have hbnd : ∀ t ∈ [(⟨0, 1, List.replicate m 97, 0⟩ : Lx.Tok)], t.s.length ≤ 1000000000 ∧ -9223372036854775808 ≤ t.n ∧ t.n ≤ 9223372036854775807 := by
          intro t ht
          rw [List.mem_singleton] at ht
          subst ht
          exact ⟨by show (List.replicate m (97 : UInt8)).length ≤ _; rw [List.length_replicate]; omega, by simp, by simp⟩
        have hjn : ∀ Z X b y, Lx.join [⟨0, 1, List.replicate m 97, 0⟩] = (b, y) → LW Z X → Calls Tryz.prog 18 #[.slice (some ⟨X.heap.size, 0, none⟩) 1 1] (X.alloc (.cells #[.int .i64 0, .int .i64 1, .string B, .int .i64 0] 26)) fun e X' => e = .returned (.tuple #[.string ⟨b.toArray⟩, .int .i64 y]) ∧ LW Z X' := by
          intro Z X b y hJ hX
          rw [← hB]
          exact lwJoinNew hX [⟨0, 1, List.replicate m 97, 0⟩] 1 rfl (by simp) hbnd hJ
        clear hf hbnd
        by_cases hbig : m = 33
        · have hdp : (0 : Int) < d := by have := HN1.out; omega
          obtain ⟨⟨ts, o⟩, hT⟩ : ∃ r, Lx.toks (List.replicate m 97) = r := ⟨_, rfl⟩
          obtain ⟨⟨b, y⟩, hJ⟩ : ∃ r, Lx.join [⟨0, 1, List.replicate m 97, 0⟩] = r := ⟨_, rfl⟩
          have h33 := Lx.name33
          rw [← hbig, hT, hJ] at h33
          simp only at h33
          obtain ⟨rfl, rfl⟩ := h33
          have hk := lwTokensBad hLW.self B hBs (by rw [hBd]; exact hT)
          have hjn := fun Z X => hjn Z X b 1 hJ
          clear hT hJ hbig hB hBd
          go_wp2_with (first
            | (go_at_call 16; refine hk.mono ?_; clear hk; rintro e W4 ⟨g, rfl, H4, hR⟩; have hst4 := hst2 _ H4)
            | (go_at_call 15; refine (lwTok H4.self _ _ _ _).mono ?_; rintro e W5 ⟨rfl, H5⟩)
            | (go_at_call 18; refine (hjn _ _ H5).mono ?_; clear hjn; rintro e W6 ⟨rfl, H6⟩; have hR6 : IsRef W6 g 32 2 := (H6.b.block g (lt_of_block hR)).trans hR)
            | (go_at_call 17; refine (lwRefusedT H6.self g 32 2 hR6 (by decide) (by decide)).mono ?_; rintro e W7 ⟨rfl, H7⟩; have H8 := hLW.trans (H4.trans (H6.trans H7)))
            | (go_at_call 3; refine (lwRuns H8).mono ?_; rintro e W9 ⟨rfl, H9⟩))
          go_ret
          exact ⟨rfl, H9⟩
        · have hdp : ¬ (0 : Int) < d := by have := HN1.out; omega
          have hm2 : m = 31 ∨ m = 32 := by have := HN1.out; omega
          obtain ⟨⟨ts, o⟩, hT⟩ : ∃ r, Lx.toks (List.replicate m 97) = r := ⟨_, rfl⟩
          obtain ⟨⟨b, y⟩, hJ⟩ : ∃ r, Lx.join [⟨0, 1, List.replicate m 97, 0⟩] = r := ⟨_, rfl⟩
          have h3 : o = none ∧ ts.length = 1 ∧ y = 0 := by
            rcases hm2 with h | h
            · have h31 := Lx.name31
              rw [← h, hT, hJ] at h31
              exact h31
            · have h32 := Lx.name32
              rw [← h, hT, hJ] at h32
              exact h32
          obtain ⟨rfl, hts1, rfl⟩ := h3
          have hk := lwTokensOk hLW.self B hBs (by rw [hBd]; exact hT)
          have hjn := fun Z X => hjn Z X b 0 hJ
          clear hT hJ hbig hB hBd hm2
          go_wp2_with (first
            | (go_at_call 16; refine hk.mono ?_; clear hk; rintro e W4 ⟨v, rfl, H4, hv⟩; have hst4 := hst2 _ H4; obtain ⟨a4, c4, rfl⟩ := hv.slice)
            | (go_at_call 15; refine (lwTok H4.self _ _ _ _).mono ?_; rintro e W5 ⟨rfl, H5⟩)
            | (go_at_call 18; refine (hjn _ _ H5).mono ?_; clear hjn; rintro e W6 ⟨rfl, H6⟩; have H8 := hLW.trans (H4.trans H6))
            | (go_at_call 3; refine (lwRuns H8).mono ?_; rintro e W9 ⟨rfl, H9⟩))
          go_ret
          exact ⟨rfl, H9⟩

end Go.Proofs.YtbhdkkkaeabkhaaGreatDoor

namespace Go.Proofs.YtbhdkkkaeabkhaaGreatDoor
open Go.RowKit Go.Shelf
set_option linter.unusedSimpArgs false
set_option linter.unusedVariables false

theorem lawWithinN (n : Int) (m : Nat) (hm : m ≤ 6000) (hn0 : -9223372036854775808 ≤ n) (hn1 : n ≤ 9223372036854775807) (w : World) :
    Calls Tryz.prog 23 #[.int .i64 n, .int .i64 0, .int .i64 (m : Int)] w fun e w' => ∃ q : Nat, e = .returned (.int .i64 (q : Int)) ∧ q ≤ m ∧ w' = w :=
  (lawWithin n 0 m (m + 1) (by omega) (by omega) (by omega) (by omega) (by omega) hn0 hn1 w).mono fun e w' ⟨r, h1, h2, h3, h4⟩ => ⟨r.toNat, by rw [h1, show (0 : Int) + r = (r.toNat : Int) by omega], by omega, h4⟩
theorem lawWithin6 (n : Int) (hn0 : -9223372036854775808 ≤ n) (hn1 : n ≤ 9223372036854775807) (w : World) :
    Calls Tryz.prog 23 #[.int .i64 n, .int .i64 1, .int .i64 6] w fun e w' => ∃ q : Int, e = .returned (.int .i64 q) ∧ q ≠ 0 ∧ w' = w :=
  (lawWithin n 1 6 6 (by omega) (by omega) (by omega) (by omega) (by omega) hn0 hn1 w).mono fun e w' ⟨r, h1, h2, h3, h4⟩ => ⟨1 + r, h1, by omega, h4⟩
theorem lwHanded {w W : World} (h : LW w W) (s : ByteArray) (Bn : Nat) (v : Value) (ts : List Lx.Tok) (most : Int) (hs : s.size ≤ 6000) (hb : W.cell? ⟨Bn, 0, none⟩ = some (.string s))
    (hts : (Lx.toks s.data.toList).1 = ts) (hv : ToksIn W v ts) (hm0 : most ≠ 0) :
    Calls Tryz.prog 28 #[.func (.func 53) #[] #[.pointer (some ⟨Bn, 0, none⟩)], v, .int .i64 most] W fun e W' => e = .returned (.bool true) ∧ LW w W' ∧ Below W.heap.size W W' := by
  have hl : ts.length ≤ 65537 := by rw [← hts]; exact toks_length _
  exact (lawHanded s Bn v ts most W h.g.gs h.n (by omega) hb hts hv hm0 hl).mono fun e W' h' => ⟨h'.1, h.go h'.2, h'.2⟩
theorem lwRefTokens {w W : World} (h : LW w W) (s : ByteArray) (hs : s.size ≤ 6000) {ts : List Lx.Tok} {o : Option (Nat × Nat)} (hT : Lx.toks s.data.toList = (ts, o)) :
    Calls Tryz.prog 24 #[.string s] W fun e W' => ∃ v, e = .returned (.tuple #[v, .int .i64 (placeR o), .int .i64 (whyR o)]) ∧ ToksIn W' v ts ∧ LW w W' ∧ Below W.heap.size W W' := by
  have := refTokens s W (by omega)
  rw [hT] at this
  exact this.mono fun e W' ⟨v, h1, h2, h3⟩ => ⟨v, h1, OwnT.toks h2, h.go h3, h3⟩
/-- lex.Tokens: a row of its own, or a refusal. -/
theorem lwTokensE {w W : World} (h : LW w W) (s : ByteArray) (hs : s.size ≤ 6000) {ts : List Lx.Tok} (hT : Lx.toks s.data.toList = (ts, none)) :
    Calls Tryz.prog 16 #[.string s] W fun e W' => ∃ a, e = .returned (.tuple #[evE (a, ts), .nilIface]) ∧ EntIs W.heap.size W' (a, ts) ts ∧ LW w W' ∧ Below W.heap.size W W' := by
  refine (lwTokens h s (by omega)).mono ?_
  rw [hT]
  rintro e W' ⟨h1, h2, h3, v, rfl, hr⟩
  obtain ⟨a, rfl, he⟩ := RowT.ent hr
  exact ⟨a, rfl, he, h1, h2⟩

theorem lwTokensX {w W : World} (h : LW w W) (s : ByteArray) (hs : s.size ≤ 6000) {ts : List Lx.Tok} {y x : Nat} (hT : Lx.toks s.data.toList = (ts, some (y, x))) :
    Calls Tryz.prog 16 #[.string s] W fun e W' => ∃ g, e = .returned (.tuple #[.slice none 0 0, .iface 74 (.pointer (some ⟨g, 0, none⟩))]) ∧ IsRef W' g x y ∧ LW w W' ∧ Below W.heap.size W W' := by
  refine (lwTokens h s (by omega)).mono ?_
  rw [hT]
  rintro e W' ⟨h1, h2, h3, g, rfl, hr, _⟩
  exact ⟨g, rfl, hr, h1, h2⟩
theorem LW.turnB {w W W' : World} (hG : GL w) (h : LW w W) (hb : Below w.heap.size W W') : LW w W' := ⟨h.b.trans hb, hG.below (h.b.trans hb), Nat.le_trans h.n hb.size⟩
theorem BookW.blk {base kb : Nat} {W : World} {E : List Ent} (h : BookW base W kb E) : ∃ cs, W.heap[kb]? = some (.cells cs 46 (0, 0)) := by
  obtain ⟨_, _, vl, vw, held, C, hk, _⟩ := h
  exact ⟨_, hk⟩
theorem Fr28.strs {kb k : Nat} {W W' : World} {cs : Array Value} (h : Fr28 kb W W') (hk : W.heap[k]? = some (.cells cs 9 (0, 0))) (hne : k ≠ kb) : W'.heap[k]? = some (.cells cs 9 (0, 0)) :=
  (h.block k (lt_of_block hk) hne (fun cs' fr he => by
    rw [hk] at he
    injection he with he
    injection he with h1 h2 h3
    exact absurd h2 (by decide))).trans hk

set_option maxRecDepth 100000 in
set_option maxHeartbeats 8000000 in
theorem lawCuts (s : ByteArray) (n0 : Int) (a0 : -9223372036854775808 ≤ n0) (a1 : n0 ≤ 9223372036854775807) (n1 : Int) (b0 : -9223372036854775808 ≤ n1) (b1 : n1 ≤ 9223372036854775807) (w : World) (hG : GL w) (hN : NG ≤ w.heap.size) :
    Calls Tryz.prog 4 #[.string s, .int .i64 n0, .int .i64 n1] w fun e w' => e = .returned (.bool true) ∧ LW w w' := by
  have H0 := LW.refl hG hN
  go_enter Tryz.func4, Tryz.ntmps4
  go_upto_region 2 with (go_at_call 22; refine (lwFew H0 s 6000 (by omega)).mono ?_; rintro e W1 ⟨B, rfl, hB, hBs, H1⟩)
  have hBi : (B.size : Int) ≤ 6000 := by omega
  have hwi := fun X => lawWithinN n0 B.size hBs a0 a1 X
  clear hB
  go_upto_region 3 with (first
    | (go_at_call 23; refine (hwi _).mono ?_; clear hwi; rintro e w' ⟨q, rfl, hq, hwe⟩; rw [hwe]; clear hwe)
    | (go_at_call 22; refine (lwFew H1 B q (by omega)).mono ?_; rintro e W2 ⟨B2, rfl, hB2, hBs2, H2⟩))
  have hB26 : B2.size ≤ 6000 := by omega
  go_upto_region 4 with fail
  have hr3 := heap_alloc_new W2 (.cells #[.string B, .string B2] 9)
  have hw3 := H2.alloc (.cells #[.string B, .string B2] 9)
  obtain ⟨R, hR⟩ : ∃ R, W2.heap.size = R := ⟨_, rfl⟩
  have hsz3 := World.size_alloc W2 (.cells #[.string B, .string B2] 9)
  obtain ⟨W3, hW3⟩ : ∃ W3, W2.alloc (.cells #[.string B, .string B2] 9) = W3 := ⟨_, rfl⟩
  rw [hR, hW3] at hr3
  rw [hR, hW3] at hsz3
  rw [hW3] at hw3
  rw [hR, hW3]
  have hr4 := heap_alloc hr3 (.cells #[.slice none 0 0, .slice none 0 0, .int .i64 0, .bool false] 46)
  have hw4 := hw3.alloc (.cells #[.slice none 0 0, .slice none 0 0, .int .i64 0, .bool false] 46)
  have hbk := BookW.new (base := w.heap.size) (W := W3) hw3.b.size
  obtain ⟨kb, hkb⟩ : ∃ kb, W3.heap.size = kb := ⟨_, rfl⟩
  have hRk : R ≠ kb := by omega
  obtain ⟨W4, hW4⟩ : ∃ W4, W3.alloc (.cells #[.slice none 0 0, .slice none 0 0, .int .i64 0, .bool false] 46) = W4 := ⟨_, rfl⟩
  rw [hkb, hW4] at hbk
  rw [hW4] at hr4 hw4
  try rw [hkb]
  try rw [hsz3] at hkb
  try rw [hkb]
  rw [hW4]
  have HR4 := Lib.hid hr4
  have HW4 := Lib.hid hw4
  have HBK := Lib.hid hbk
  clear hr3 hw3 hr4 hw4 hbk hR hsz3 hW3 hkb hW4 H0 H1 H2 hB2
  go_wp2_with fail
  go_loopg [9] 2 (fun n v wr => ∃ (i : Nat) (E : List Ent), n = 2 - i ∧ v = .int .i64 (i : Int) ∧ i ≤ 2 ∧ LW w wr ∧ BookW w.heap.size wr kb E ∧ E.length = 2 * i ∧ (∀ e ∈ E, e.2.length ≤ 65537) ∧ wr.heap[R]? = some (.cells #[.string B, .string B2] 9 (0, 0)))
  case atStart => exact ⟨0, [], rfl, rfl, Nat.zero_le _, HW4.out, HBK.out, rfl, by simp, HR4.out⟩
  case round =>
    obtain ⟨i, E, hn, rfl, hi2, hW, hbk, hE, hlen, hrow⟩ := hrel
    have HN := Lib.hid hn
    have HW := Lib.hid hW
    have HBK := Lib.hid hbk
    have HE := Lib.hid hE
    have HLEN := Lib.hid hlen
    have HROW := Lib.hid hrow
    have i0 : (0 : Int) ≤ (i : Int) := by omega
    clear hn hW hbk hE hlen hrow
    by_cases hlt : i < 2
    · have hi : (i : Int) < 2 := by omega
      obtain ⟨S, hS, hS6⟩ : ∃ S : ByteArray, (#[.string B, .string B2] : Array Value)[i]? = some (.string S) ∧ S.size ≤ 6000 := by
        match i, hlt with
        | 0, _ => exact ⟨B, rfl, hBs⟩
        | 1, _ => exact ⟨B2, rfl, hB26⟩
      have hSc : ∀ (X : World), X.heap[R]? = some (.cells #[.string B, .string B2] 9 (0, 0)) → X.cell? ⟨R, i, none⟩ = some (.string S) := fun X hX => (cell_of hX i).trans hS
      have HSC := Lib.hid hSc
      obtain ⟨⟨ts, o⟩, hT⟩ : ∃ r, Lx.toks S.data.toList = r := ⟨_, rfl⟩
      have HT := Lib.hid hT
      have htl : ts.length ≤ 65537 := by have := toks_length S.data.toList; rw [hT] at this; exact this
      have hrt := lwRefTokens HW.out S hS6 hT
      have r0 := HSC.out _ HROW.out
      have hlR := lt_of_block HROW.out
      clear hS hSc hT
      go_upto_region 8 with (go_at_call 24; refine hrt.mono ?_; clear hrt; rintro e W5 ⟨vw, rfl, hvw, H5, hb5⟩)
      have HBK5 := Lib.hid (HBK.out.below hb5)
      have HROW5 := Lib.hid ((hb5.block R hlR).trans HROW.out)
      have H55 := Lib.hid H5
      have HVW := Lib.hid hvw
      clear hb5 H5 hvw r0 hlR
      go_wp2_with fail
      go_loopg [13] 2 (fun n v wx => ∃ (j : Nat) (E' : List Ent), n = 2 - j ∧ v = .int .i64 (j : Int) ∧ j ≤ 2 ∧ LW w wx ∧ BookW w.heap.size wx kb E' ∧ E'.length = 2 * i + j ∧ (∀ e ∈ E', e.2.length ≤ 65537) ∧ wx.heap[R]? = some (.cells #[.string B, .string B2] 9 (0, 0)) ∧ ToksIn wx vw ts)
      case atStart => exact ⟨0, E, rfl, rfl, Nat.zero_le _, H55.out, HBK5.out, HE.out, HLEN.out, HROW5.out, HVW.out⟩
      case round =>
        obtain ⟨j, E', hn, rfl, hj2, hW, hbk, hE, hlen, hrow, hvw⟩ := hrel
        have HN2 := Lib.hid hn
        have HW2 := Lib.hid hW
        have HBK2 := Lib.hid hbk
        have HE2 := Lib.hid hE
        have HLEN2 := Lib.hid hlen
        have HROW2 := Lib.hid hrow
        have HVW2 := Lib.hid hvw
        have j0 : (0 : Int) ≤ (j : Int) := by omega
        have r0 := HSC.out _ hrow
        have hlR := lt_of_block hrow
        clear hn hW hbk hE hlen hrow hvw
        by_cases hjl : j < 2
        · have hji : (j : Int) < 2 := by omega
          cases o with
          | some yx =>
            obtain ⟨y, x⟩ := yx
            have hy0 := Lx.toks_why HT.out
            have hyx := Lx.toks_bounds' HT.out
            rw [len_size] at hyx
            have hw : whyR (some (y, x)) = (y : Int) := rfl
            have hp : placeR (some (y, x)) = (x : Int) := rfl
            rw [hw, hp]
            have hyb : ((y : Int) != 0) = true := by simp; omega
            have hyb2 : ((y : Int) == 0) = false := by simp; omega
            have htk := lwTokensX HW2.out S hS6 HT.out
            clear hw hp hy0
            go_upto_region 12 with (go_at_call 16; refine htk.mono ?_; clear htk; rintro e W6 ⟨g, rfl, hR6, H6, hb6⟩)
            have hrf := lwRefusedT H6.self g x y hR6 (by omega) (by omega)
            have HB6 := Lib.hid hb6
            have HV6 := Lib.hid (HVW2.out.below hb6)
            have H66 := Lib.hid H6
            clear hb6 H6 hR6 r0 hlR
            go_upto_region 14 with (go_at_call 17; refine hrf.mono ?_; clear hrf; rintro e W7 ⟨rfl, H7⟩)
            have hk8 := bookKeep w.heap.size kb W7 E' none [] ((HBK2.out.below HB6.out).below H7.b) ⟨rfl, .inl rfl⟩ (fun _ _ _ _ _ h _ => absurd rfl h) (by simp) (by have := HE2.out; omega)
            rw [show evE (none, []) = .slice none 0 0 from rfl] at hk8
            have hrow7 := (H7.b.block R (lt_of_block ((HB6.out.block R (lt_of_block HROW2.out)).trans HROW2.out))).trans ((HB6.out.block R (lt_of_block HROW2.out)).trans HROW2.out)
            have HROW7 := Lib.hid hrow7
            have H77 := Lib.hid (H66.out.trans H7)
            have HV7 := Lib.hid (HV6.out.below H7.b)
            have HBK7 := Lib.hid ((HBK2.out.below HB6.out).below H7.b)
            clear hrow7 H7
            go_wp2_with (go_at_call 26; refine hk8.mono ?_; clear hk8; rintro e W8 ⟨⟨u, rfl⟩, hbk8, hb8, hf8⟩)
            obtain ⟨csk, hkk⟩ := HBK7.out.blk
            have hl8 := Lib.hid (LW.turnB hG H77.out hb8)
            have hr8 := Lib.hid (hf8.strs HROW7.out hRk)
            have hv8 := Lib.hid (toks_fr HV7.out hf8 hkk)
            have HBK8 := Lib.hid hbk8
            clear hbk8 hb8 hf8 hkk
            go_roundg (2 - (j + 1))
            case measure => have := HN2.out; omega
            case rel =>
              refine ⟨j + 1, _, rfl, by simp, by omega, hl8.out, HBK8.out, by rw [List.length_append, HE2.out]; rfl, fun e he => ?_, hr8.out, hv8.out⟩
              rw [List.mem_append, List.mem_singleton] at he
              rcases he with he | rfl
              · exact HLEN2.out e he
              · exact Nat.zero_le _
          | none =>
            have hw : whyR none = 0 := rfl
            have hp : placeR none = 0 := rfl
            rw [hw, hp]
            have htk := lwTokensE HW2.out S hS6 HT.out
            clear hw hp
            go_upto_region 12 with (go_at_call 16; refine htk.mono ?_; clear htk; rintro e W6 ⟨a, rfl, hea, H6, hb6⟩)
            have hvw6 := HVW2.out.below hb6
            have hsm := lwSame H6.self hea.toks hvw6 (by omega) (by omega)
            rw [decide_eq_true rfl] at hsm
            have HEA := Lib.hid hea
            have HB6 := Lib.hid hb6
            have HV6 := Lib.hid hvw6
            have H66 := Lib.hid H6
            have HFR := Lib.hid (book_fresh HBK2.out hea)
            obtain ⟨ve, hve⟩ : ∃ ve, evE (a, ts) = ve := ⟨_, rfl⟩
            have HVE := Lib.hid hve
            rw [hve] at hsm ⊢
            clear hea hb6 hvw6 H6 hve r0 hlR
            go_upto_region 14 with (go_at_call 25; refine hsm.mono ?_; clear hsm; rintro e W7 ⟨rfl, H7⟩)
            have hk8 := bookKeep w.heap.size kb W7 E' a ts ((HBK2.out.below HB6.out).below H7.b) ((HEA.out.below H7.b).mono HW2.out.b.size) HFR.out htl (by have := HE2.out; omega)
            rw [HVE.out] at hk8
            have hrow7 := (H7.b.block R (lt_of_block ((HB6.out.block R (lt_of_block HROW2.out)).trans HROW2.out))).trans ((HB6.out.block R (lt_of_block HROW2.out)).trans HROW2.out)
            have HROW7 := Lib.hid hrow7
            have H77 := Lib.hid (H66.out.trans H7)
            have HV7 := Lib.hid (HV6.out.below H7.b)
            have HBK7 := Lib.hid ((HBK2.out.below HB6.out).below H7.b)
            clear hrow7 H7
            go_wp2_with (go_at_call 26; refine hk8.mono ?_; clear hk8; rintro e W8 ⟨⟨u, rfl⟩, hbk8, hb8, hf8⟩)
            obtain ⟨csk, hkk⟩ := HBK7.out.blk
            have hl8 := Lib.hid (LW.turnB hG H77.out hb8)
            have hr8 := Lib.hid (hf8.strs HROW7.out hRk)
            have hv8 := Lib.hid (toks_fr HV7.out hf8 hkk)
            have HBK8 := Lib.hid hbk8
            clear hbk8 hb8 hf8 hkk
            go_roundg (2 - (j + 1))
            case measure => have := HN2.out; omega
            case rel =>
              refine ⟨j + 1, _, rfl, by simp, by omega, hl8.out, HBK8.out, by rw [List.length_append, HE2.out]; rfl, fun e he => ?_, hr8.out, hv8.out⟩
              rw [List.mem_append, List.mem_singleton] at he
              rcases he with he | rfl
              · exact HLEN2.out e he
              · exact htl
        · have hji : ¬ (j : Int) < 2 := by omega
          go_upto_region 16 with (go_at_call 27; refine (lexAll S _).mono ?_; rintro e w' ⟨rfl, hwe⟩; rw [hwe]; clear hwe)
          obtain ⟨W6, hW6⟩ : ∃ W6, wr.alloc (.cells #[.string S] 9) = W6 := ⟨_, rfl⟩
          have hb6 : Below wr.heap.size wr W6 := by rw [← hW6]; exact grown_below (World.grownBy_alloc _ _ _)
          have hc6 : W6.cell? ⟨wr.heap.size, 0, none⟩ = some (.string S) := by rw [← hW6]; exact cell_of (heap_alloc_new wr (.cells #[.string S] 9)) 0
          have H6 := HW2.out.go hb6
          have hv6 := HVW2.out.below hb6
          have HBF := Lib.hid hb6
          obtain ⟨L, hL⟩ : ∃ L, wr.heap.size = L := ⟨_, rfl⟩
          rw [hL] at hc6
          rw [hW6]
          try rw [hL]
          have hha : ∀ (X : World) (most : Int), LW w X → Below W6.heap.size W6 X → most ≠ 0 → Calls Tryz.prog 28 #[.func (.func 53) #[] #[.pointer (some ⟨L, 0, none⟩)], vw, .int .i64 most] X fun e X' => e = .returned (.bool true) ∧ LW w X' ∧ Below W6.heap.size W6 X' := by
            intro X most hX hbX hm
            exact (lwHanded hX S L vw ts most hS6 ((World.cell?_of_block (hbX.block L (World.block_lt_of_cell? W6 ⟨L, 0, none⟩ hc6))).trans hc6) (by rw [HT.out]) (hv6.below hbX) hm).mono fun e X' h => ⟨h.1, h.2.1, Below.chain hbX h.2.2⟩
          have hwi := fun X => lawWithin6 n1 b0 b1 X
          have h1 := hha W6 (-1) H6 (Below.refl _ _) (by decide)
          have HHA := Lib.hid hha
          clear hha hc6 hv6 hL hW6 r0 hlR
          go_wp2_with (first
            | (go_at_call 23; refine (hwi _).mono ?_; clear hwi; rintro e w' ⟨q2, rfl, hq2, hwe⟩; rw [hwe]; clear hwe)
            | (go_at_call 28; refine h1.mono ?_; clear h1; rintro e W7 ⟨rfl, H7, hb7⟩)
            | (go_at_call 28; refine (HHA.out _ (-1) H8 hb8 (by decide)).mono ?_; rintro e W9 ⟨rfl, H9, hb9⟩)
            | (go_at_call 28; refine (HHA.out _ q2 H7 hb7 hq2).mono ?_; rintro e W8 ⟨rfl, H8, hb8⟩))
          have hb9' := Below.chain HBF.out hb9
          have HX1 := Lib.hid (HBK2.out.below hb9')
          have HX2 := Lib.hid ((hb9'.block R (lt_of_block HROW2.out)).trans HROW2.out)
          go_roundg (2 - (i + 1))
          case measure => have := HN.out; omega
          case rel => exact ⟨i + 1, E', rfl, by simp, by omega, H9, HX1.out, by have := HE2.out; omega, HLEN2.out, HX2.out⟩
    · have hi : ¬ (i : Int) < 2 := by omega
      have hap := bookApart w.heap.size kb wr E HBK.out (by have := HE.out; omega) HLEN.out
      go_wp2_with (first
        | (go_at_call 29; refine hap.mono ?_; clear hap; rintro e W5 ⟨rfl, hb5⟩)
        | (go_at_call 3; refine (lwRuns (⟨HW.out.b.trans hb5, hG.below (HW.out.b.trans hb5), Nat.le_trans HW.out.n hb5.size⟩ : LW w W5)).mono ?_; rintro e W6 ⟨rfl, H6⟩))
      go_ret
      exact ⟨rfl, H6⟩

end Go.Proofs.YtbhdkkkaeabkhaaGreatDoor
