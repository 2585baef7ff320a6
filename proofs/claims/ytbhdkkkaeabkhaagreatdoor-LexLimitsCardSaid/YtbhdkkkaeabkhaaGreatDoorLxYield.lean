/-
  The walk of 'cut' with a yield for its callee; All's function.
-/
import Derived.Test.YtbhdkkkaeabkhaaGreatDoorLxCut
import Derived.Test.YtbhdkkkaeabkhaaGreatDoorLxRange
namespace Go.Proofs.YtbhdkkkaeabkhaaGreatDoor
open Go.RowKit Go.Shelf
set_option linter.unusedSimpArgs false
set_option linter.unusedVariables false
attribute [local go_sem] Oper.semAt_some

/-- Tokens with their numbers. -/
def num : Nat → List Lx.Tok → List (Nat × Lx.Tok)
  | _, [] => []
  | i, t :: l => (i, t) :: num (i + 1) l
def encT (x : Nat × Lx.Tok) : Array Value := #[.int .i64 x.1, .agg #[.int .i64 x.2.pos, .int .i64 x.2.kind, .string ⟨x.2.s.toArray⟩, .int .i64 x.2.n]]
/-- Where a cutter stands, read off the world. -/
def placeOf (b : Nat) (w : World) : Nat := match w.cell? ⟨b, 1, none⟩ with | some (.int _ n) => n.toNat | _ => 0
theorem placeOf_eq {w : World} {b m : Nat} {s : ByteArray} (h : Cu w b s m) : placeOf b w = m := by
  unfold placeOf
  rw [h.c1]
  simp
theorem GS.keepT {T : Nat} {w w' : World} (h : GS w) (hk : KeepT T NG w w') : GS w' := h.of_heap fun k hn hk' => hk.low k hn hk'

set_option maxRecDepth 100000 in
set_option maxHeartbeats 8000000 in
theorem lexCutY (d : Nat) (s : ByteArray) (l B : Nat) (J Jx : List (Nat × Lx.Tok) → World → Prop) (hJ : AbI 102 B J) (hJx : AbI 102 B Jx)
    (hY : ∀ pre x W1, J pre W1 → pre ++ [x] <+: num 0 (Lx.toks s.data.toList).1 → ∀ m, YieldAt Fence.wide m Tryz.prog l (encT x) W1 fun e W' =>
      (e = .returned (.bool true) ∧ J (pre ++ [x]) W' ∧ KeepT 102 NG W1 W') ∨ (e = .returned (.bool false) ∧ Jx (pre ++ [x]) W'))
    (w : World) (hB : B ≤ w.heap.size) (hG : GS w) (hN : NG ≤ w.heap.size) (hs : s.size ≤ 140737488351232) (h0 : J [] w) :
    CallsIn Fence.wide d Tryz.prog 38 #[.string s, .func (.yield l) #[] #[]] w fun e W' => (∃ v, e = .returned v) ∧
      (J (num 0 (Lx.toks s.data.toList).1) W' ∨ ∃ pre, pre <+: num 0 (Lx.toks s.data.toList).1 ∧ pre ≠ [] ∧ Jx pre W') := by
  refine callsIn_of_wp Tryz.func38 rfl trivial ?_ rfl
  simp only [Tryz.ntmps38, List.size_toArray, List.length_cons, List.length_nil, Nat.reduceAdd, Nat.reduceSub, Array.replicate_succ, Array.replicate_zero, List.push_toArray, List.append_toArray, List.nil_append, List.cons_append]
  have hdw : ∀ k : Nat, (Fence.wide.depth.isSome = true → 1 ≤ k) := fun k h => by cases h
  by_cases hl : 65536 < s.size
  · have hl' : (65536 : Int) < (s.size : Int) := by omega
    have ht : (Lx.toks s.data.toList).1 = [] := by unfold Lx.toks; rw [if_pos (by rw [len_size]; exact hl)]
    have HT := Lib.hid ht
    have HJ := Lib.hid hJ
    clear ht
    gi_wp2_with (refine ⟨trivial, hdw _, ?_⟩; gi_at_call 56; refine (callsIn_wide.2 (lexWrong _ _ _)).mono ?_; rintro e w' ⟨rfl, rfl⟩)
    go_ret
    refine ⟨⟨_, rfl⟩, .inl ?_⟩
    rw [HT.out]
    exact HJ.out _ _ _ none h0 (World.grownBy_alloc _ _ _) (fun r e => nomatch e)
  · have hl' : ¬ (65536 : Int) < (s.size : Int) := by omega
    have ht : Lx.toks s.data.toList = Lx.go (s.size + 1) 0 0 (s.data.toList.drop 0) := by unfold Lx.toks; rw [if_neg (by rw [len_size]; exact hl), len_size]; rfl
    have HT := Lib.hid ht
    clear ht
    gi_wp2
    have hC1 : Cu (w.alloc (.cells #[.string s, .int .i64 0] 102)) w.heap.size s 0 := heap_alloc_new w _
    have hJ1 := hJ _ _ _ none h0 (World.grownBy_alloc w (.cells #[.string s, .int .i64 0] 102) none) (fun r e => nomatch e)
    have hG1 := hG.alloc (.cells #[.string s, .int .i64 0] 102)
    obtain ⟨w1, hw1⟩ : ∃ w1, w.alloc (.cells #[.string s, .int .i64 0] 102) = w1 := ⟨_, rfl⟩
    rw [hw1] at hC1 hJ1 hG1 ⊢
    clear hw1
    have HC1 := Lib.hid hC1
    have HJ := Lib.hid hJ
    clear hC1 h0 hJ
    gi_loopw [6] (fun p wr => ∃ (m i f : Nat) (pre : List (Nat × Lx.Tok)), p = .int .i64 (i : Int) ∧ i ≤ 4096 ∧ m ≤ s.size ∧ Cu wr w.heap.size s m ∧ GS wr ∧ s.size - m < f ∧ J pre wr ∧ pre.length = i ∧
      num 0 (Lx.toks s.data.toList).1 = pre ++ num i (Lx.go f m i (s.data.toList.drop m)).1) (fun p wr => s.size - placeOf w.heap.size wr)
    case atStart => exact ⟨0, 0, s.size + 1, [], rfl, by omega, by omega, HC1.out, hG1, by omega, hJ1, rfl, by rw [HT.out]; rfl⟩
    case round =>
      obtain ⟨m, i, f, pre, rfl, hi, hm, hC, hGr, hf, hJr, hpl, he⟩ := hrel
      have hbl : w.heap.size < wr.heap.size := hC.lt
      obtain ⟨f, rfl⟩ : ∃ f', f = f' + 1 := ⟨f - 1, by omega⟩
      obtain ⟨hq1, hq2, hq3⟩ := skip_at s m hm
      have HE := Lib.hid he
      have HPL := Lib.hid hpl
      have HM := Lib.hid (placeOf_eq hC)
      have hsk := lexSkip s w.heap.size m wr hC hm hs
      have i1 : (i : Int) ≤ 4096 := by omega
      have q1 : ((skipAt s m : Nat) : Int) ≤ (s.size : Int) := by omega
      have hsk' : Calls Tryz.prog 57 #[.pointer (some ⟨w.heap.size, 0, none⟩)] wr fun e w' => e = .returned (.tuple #[]) ∧ Cu w' w.heap.size s (skipAt s m) ∧ w.heap.size < w'.heap.size ∧ GS w' ∧ J pre w' :=
        hsk.mono fun e w' h => ⟨h.1, h.2.1, h.2.1.lt, hGr.grown h.2.2 hN, HJ.out _ _ _ _ hJr h.2.2 (fun r e => by injection e with e; subst e; exact ⟨hB, _, hC, ⟨_, _, rfl⟩⟩)⟩
      clear hsk he hpl hC HC1
      by_cases hq : skipAt s m = s.size
      · have hR : num 0 (Lx.toks s.data.toList).1 = pre := HE.out.trans (by rw [go_end hm hq]; simp [num])
        have HR := Lib.hid hR
        clear hR
        have HQ := Lib.hid hq
        have hqi : ((skipAt s m : Nat) : Int) = (s.size : Int) := by omega
        clear hq
        gi_wp2_with (refine ⟨trivial, hdw _, ?_⟩; gi_at_call 57; refine (callsIn_wide.2 hsk').mono ?_; clear hsk'; rintro e w5 ⟨rfl, hC5, hz5, hG5, hJ5⟩; have c0 := hC5.c0; have c1 := hC5.c1; have cf1 := hC5.f1)
        go_ret
        refine ⟨⟨_, rfl⟩, .inl ?_⟩
        rw [HR.out]
        exact hJ5
      · have hq' : skipAt s m < s.size := by omega
        have hqne : ¬ ((skipAt s m : Nat) : Int) = (s.size : Int) := by omega
        have hqlt : ((skipAt s m : Nat) : Int) < (s.size : Int) := by omega
        have hq0 : (0 : Int) ≤ ((skipAt s m : Nat) : Int) := by omega
        have HQ := Lib.hid hq
        clear hq
        have hqb : (((skipAt s m : Nat) : Int) == (s.size : Int)) = false := by simp; omega
        cases hb : Lx.begins (s[skipAt s m]'hq') with
        | false =>
          have hR : num 0 (Lx.toks s.data.toList).1 = pre := HE.out.trans (by rw [go_byte hm hq' hb]; simp [num])
          have HR := Lib.hid hR
          clear hR
          gi_wp2_with (first | (refine ⟨trivial, hdw _, ?_⟩; gi_at_call 57; refine (callsIn_wide.2 hsk').mono ?_; clear hsk'; rintro e w5 ⟨rfl, hC5, hz5, hG5, hJ5⟩; have c0 := hC5.c0; have c1 := hC5.c1; have cf1 := hC5.f1) | (refine ⟨trivial, hdw _, ?_⟩; gi_at_call 58; refine (callsIn_wide.2 (lexBegins _ _)).mono ?_; rintro e w' ⟨rfl, rfl⟩) | (refine ⟨trivial, hdw _, ?_⟩; gi_at_call 56; refine (callsIn_wide.2 (lexWrong _ _ _)).mono ?_; rintro e w' ⟨rfl, rfl⟩))
          go_ret
          refine ⟨⟨_, rfl⟩, .inl ?_⟩
          rw [HR.out]
          exact HJ.out _ _ _ none hJ5 (World.grownBy_alloc _ _ _) (fun r e => nomatch e)
        | true =>
          by_cases h4 : i = 4096
          · have hR : num 0 (Lx.toks s.data.toList).1 = pre := HE.out.trans (by rw [go_many hm hq' hb h4]; simp [num])
            have HR := Lib.hid hR
            have h4b : ((i : Int) == 4096) = true := by simp; omega
            clear hR h4
            gi_wp2_with (first | (refine ⟨trivial, hdw _, ?_⟩; gi_at_call 57; refine (callsIn_wide.2 hsk').mono ?_; clear hsk'; rintro e w5 ⟨rfl, hC5, hz5, hG5, hJ5⟩; have c0 := hC5.c0; have c1 := hC5.c1; have cf1 := hC5.f1) | (refine ⟨trivial, hdw _, ?_⟩; gi_at_call 58; refine (callsIn_wide.2 (lexBegins _ _)).mono ?_; rintro e w' ⟨rfl, rfl⟩) | (refine ⟨trivial, hdw _, ?_⟩; gi_at_call 56; refine (callsIn_wide.2 (lexWrong _ _ _)).mono ?_; rintro e w' ⟨rfl, rfl⟩))
            go_ret
            refine ⟨⟨_, rfl⟩, .inl ?_⟩
            rw [HR.out]
            exact HJ.out _ _ _ none hJ5 (World.grownBy_alloc _ _ _) (fun r e => nomatch e)
          · have h4b : ((i : Int) == 4096) = false := by simp; omega
            have i2 : (i : Int) < 4096 := by omega
            have i3 : i < 4096 := by omega
            have H4 := Lib.hid h4
            clear h4
            have HB := Lib.hid hb
            cases hc : Lx.cut (skipAt s m) (s.data.toList.drop (skipAt s m)) with
            | bad y x =>
              have hR : num 0 (Lx.toks s.data.toList).1 = pre := HE.out.trans (by rw [go_bad hm hq' hb H4.out hc]; simp [num])
              have HR := Lib.hid hR
              have HX := Lib.hid hc
              clear hR hc
              gi_wp2_with (first | (refine ⟨trivial, hdw _, ?_⟩; gi_at_call 57; refine (callsIn_wide.2 hsk').mono ?_; clear hsk'; rintro e w5 ⟨rfl, hC5, hz5, hG5, hJ5⟩; have c0 := hC5.c0; have c1 := hC5.c1; have cf1 := hC5.f1) | (refine ⟨trivial, hdw _, ?_⟩; gi_at_call 58; refine (callsIn_wide.2 (lexBegins _ _)).mono ?_; rintro e w' ⟨rfl, rfl⟩) | (refine ⟨trivial, hdw _, ?_⟩; gi_at_call 59; refine (callsIn_wide.2 (lexToken s w.heap.size (skipAt s m) _ hC5 hq' hs hG5 hN HB.out)).mono ?_; intro e w6 hres; obtain ⟨g, j, rfl, hg6, hR6, hgl, hC6⟩ := ResIs.bad' HX.out hres; clear hres))
              go_ret
              refine ⟨⟨_, rfl⟩, .inl ?_⟩
              rw [HR.out]
              exact HJ.out _ _ _ none (HJ.out _ _ _ _ hJ5 hg6 (fun r e => by injection e with e; subst e; exact ⟨hB, _, hC5, ⟨_, _, rfl⟩⟩)) (World.grownBy_alloc _ _ _) (fun r e => nomatch e)
            | ok t n =>
              have HX := Lib.hid hc
              have hR := HE.out
              rw [go_ok hm hq' hb H4.out hc] at hR
              have HR := Lib.hid hR
              obtain ⟨hn0, hfit⟩ := cut_fits hq' hc
              clear hR hc
              gi_wp2_with (first | (refine ⟨trivial, hdw _, ?_⟩; gi_at_call 57; refine (callsIn_wide.2 hsk').mono ?_; clear hsk'; rintro e w5 ⟨rfl, hC5, hz5, hG5, hJ5⟩; have c0 := hC5.c0; have c1 := hC5.c1; have cf1 := hC5.f1) | (refine ⟨trivial, hdw _, ?_⟩; gi_at_call 58; refine (callsIn_wide.2 (lexBegins _ _)).mono ?_; rintro e w' ⟨rfl, rfl⟩) | (refine ⟨trivial, hdw _, ?_⟩; gi_at_call 59; refine (callsIn_wide.2 (lexToken s w.heap.size (skipAt s m) _ hC5 hq' hs hG5 hN HB.out)).mono ?_; intro e w6 hres; obtain ⟨rfl, hg6, hC6⟩ := ResIs.ok' HX.out hres; clear hres; have hJ6 := HJ.out _ _ _ none (HJ.out _ _ _ _ hJ5 hg6 (fun r e => by injection e with e; subst e; exact ⟨hB, _, hC5, ⟨_, _, rfl⟩⟩)) (World.grownBy_alloc w6 (.cells #[.int .i64 t.pos, .int .i64 t.kind, .string ⟨t.s.toArray⟩, .int .i64 t.n] 26) none) (fun r e => nomatch e); obtain ⟨fn, tm, asg, bd, hy, hRd⟩ := hY pre (i, t) _ hJ6 (by rw [HR.out]; exact ⟨_, by simp [num]; rfl⟩) (d - 1); dsimp only [encT] at hy))
              refine ⟨hdw _, hRd.mono ?_⟩
              rintro e W3 (⟨rfl, hJ3, hk3⟩ | ⟨rfl, hJx3⟩)
              · have hC3 : Cu W3 w.heap.size s (skipAt s m + n) := hk3.own _ _ (hC6.alloc _) ⟨_, _, rfl⟩
                have hG3 : GS W3 := ((hG5.grown hg6 hN).alloc _).keepT hk3
                gi_wp2
                go_roundw
                case rel => exact ⟨skipAt s m + n, i + 1, f, pre ++ [(i, t)], by simp, by omega, hfit, hC3, hG3, by omega, hJ3, by simp [HPL.out], by rw [HR.out]; simp [num]⟩
                case measure => rw [placeOf_eq hC3, HM.out]; omega
              · gi_wp2
                go_ret
                exact ⟨⟨_, rfl⟩, .inr ⟨pre ++ [(i, t)], by rw [HR.out]; exact ⟨_, by simp [num]; rfl⟩, by simp, hJx3⟩⟩

set_option maxHeartbeats 1000000 in
/-- All's function. -/
theorem lexAllFn (d : Nat) (s : ByteArray) (l B Bn : Nat) (J Jx : List (Nat × Lx.Tok) → World → Prop) (hJ : AbI 102 B J) (hJx : AbI 102 B Jx)
    (hY : ∀ pre x W1, J pre W1 → pre ++ [x] <+: num 0 (Lx.toks s.data.toList).1 → ∀ m, YieldAt Fence.wide m Tryz.prog l (encT x) W1 fun e W' =>
      (e = .returned (.bool true) ∧ J (pre ++ [x]) W' ∧ KeepT 102 NG W1 W') ∨ (e = .returned (.bool false) ∧ Jx (pre ++ [x]) W'))
    (w : World) (hB : B ≤ w.heap.size) (hG : GS w) (hN : NG ≤ w.heap.size) (hs : s.size ≤ 140737488351232) (hb : w.cell? ⟨Bn, 0, none⟩ = some (.string s)) (h0 : J [] w) :
    CallsIn Fence.wide d Tryz.prog 53 #[.func (.yield l) #[] #[], .pointer (some ⟨Bn, 0, none⟩)] w fun e W' => (∃ v, e = .returned v) ∧
      (J (num 0 (Lx.toks s.data.toList).1) W' ∨ ∃ pre, pre <+: num 0 (Lx.toks s.data.toList).1 ∧ pre ≠ [] ∧ Jx pre W') := by
  refine callsIn_of_wp Tryz.func53 rfl trivial ?_ rfl
  simp only [Tryz.ntmps53, List.size_toArray, List.length_cons, List.length_nil, Nat.reduceAdd, Nat.reduceSub, Array.replicate_succ, Array.replicate_zero, List.push_toArray, List.append_toArray, List.nil_append, List.cons_append]
  have hdw : ∀ k : Nat, (Fence.wide.depth.isSome = true → 1 ≤ k) := fun k h => by cases h
  have hcut := lexCutY (d - 1) s l B J Jx hJ hJx hY w hB hG hN hs h0
  gi_wp2_with (refine ⟨trivial, hdw _, ?_⟩; gi_at_call 38; refine hcut.mono ?_; clear hcut; rintro e w5 ⟨⟨v, rfl⟩, hor⟩)
  go_end0
  exact ⟨⟨_, rfl⟩, hor⟩

/-- .. as the range's contract. -/
theorem lexAll_seq (s : ByteArray) (Bn d : Nat) (w : World) (hG : GS w) (hN : NG ≤ w.heap.size) (hs : s.size ≤ 140737488351232) (hb : w.cell? ⟨Bn, 0, none⟩ = some (.string s)) :
    SeqT 102 NG Fence.wide d Tryz.prog 53 #[.pointer (some ⟨Bn, 0, none⟩)] encT (fun xs => xs = num 0 (Lx.toks s.data.toList).1) (fun pre => pre <+: num 0 (Lx.toks s.data.toList).1 ∧ pre ≠ [])
      (fun pre x => pre ++ [x] <+: num 0 (Lx.toks s.data.toList).1) w := by
  intro l J Jx W hW hJ hJx hY h0
  have hbl : Bn < w.heap.size := World.block_lt_of_cell? w ⟨Bn, 0, none⟩ hb
  have hb' : W.cell? ⟨Bn, 0, none⟩ = some (.string s) := (World.cell?_of_block (hW.block _ hbl)).trans hb
  refine (lexAllFn d s l W.heap.size Bn J Jx hJ hJx (fun pre x W1 h1 h2 m => yieldAt_any rfl m (hY pre x W1 h1 h2)) W (Nat.le_refl _) (hG.below hW) (by have := hW.size; omega) hs hb' h0).mono ?_
  rintro e W' ⟨hv, h | ⟨pre, hp, hne, hx⟩⟩
  · exact ⟨hv, .inl ⟨_, rfl, h⟩⟩
  · exact ⟨hv, .inr ⟨pre, ⟨hp, hne⟩, hx⟩⟩

end Go.Proofs.YtbhdkkkaeabkhaaGreatDoor
