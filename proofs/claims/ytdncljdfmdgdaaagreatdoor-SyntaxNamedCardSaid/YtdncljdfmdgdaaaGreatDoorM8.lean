/-
  The walk of 'cut' with a yield for its callee; All's function.
  The walks of All and Tokens.
  The walk of written.
  The walk of Join.
  Rows of tokens in memory: they stay, they are read.
  A law's world.
-/
import Derived.Test.YtdncljdfmdgdaaaGreatDoorM7
import Derived.Lib.AppendIntMem
namespace Go.Proofs.YtdncljdfmdgdaaaGreatDoor
open Go.RowKit Go.Shelf
set_option linter.unusedSimpArgs false
set_option linter.unusedVariables false
attribute [local go_sem] Oper.semAt_some

/-- Tokens with their numbers. -/
def num : Nat → List Lx.Tok → List (Nat × Lx.Tok)
  | _, [] => []
  | i, t :: l => (i, t) :: num (i + 1) l
def encT (x : Nat × Lx.Tok) : Array Value := #[.int .i64 x.1, .agg #[.int .i64 x.2.pos, .int .i64 x.2.kind, .string ⟨x.2.s.toArray⟩, .int .i64 x.2.n]]
/-- Where a cutter stands, read off the world. -/
def placeOf (b : Nat) (w : World) : Nat := match w.cell? ⟨b, 1, none⟩ with | some (.int _ n) => n.toNat | _ => 0
theorem placeOf_eq {w : World} {b m : Nat} {s : ByteArray} (h : Cu w b s m) : placeOf b w = m := by
  unfold placeOf
  rw [h.c1]
  simp
theorem GS.keepT {T : Nat} {w w' : World} (h : GS w) (hk : KeepT T NG w w') : GS w' := h.of_heap fun k hn hk' => hk.low k hn hk'

set_option maxRecDepth 100000 in
set_option maxHeartbeats 8000000 in
theorem lexCutY (d : Nat) (s : ByteArray) (l B : Nat) (J Jx : List (Nat × Lx.Tok) → World → Prop) (hJ : AbI 171 B J) (hJx : AbI 171 B Jx)
    (hY : ∀ pre x W1, J pre W1 → pre ++ [x] <+: num 0 (Lx.toks s.data.toList).1 → ∀ m, YieldAt Fence.wide m Tryz.prog l (encT x) W1 fun e W' =>
      (e = .returned (.bool true) ∧ J (pre ++ [x]) W' ∧ KeepT 171 NG W1 W') ∨ (e = .returned (.bool false) ∧ Jx (pre ++ [x]) W'))
    (w : World) (hB : B ≤ w.heap.size) (hG : GS w) (hN : NG ≤ w.heap.size) (hs : s.size ≤ 140737488351232) (h0 : J [] w) :
    CallsIn Fence.wide d Tryz.prog 88 #[.string s, .func (.yield l) #[] #[]] w fun e W' => (∃ v, e = .returned v) ∧
      (J (num 0 (Lx.toks s.data.toList).1) W' ∨ ∃ pre, pre <+: num 0 (Lx.toks s.data.toList).1 ∧ pre ≠ [] ∧ Jx pre W') := by
  refine callsIn_of_wp Tryz.func88 rfl trivial ?_ rfl
  simp only [Tryz.ntmps88, List.size_toArray, List.length_cons, List.length_nil, Nat.reduceAdd, Nat.reduceSub, Array.replicate_succ, Array.replicate_zero, List.push_toArray, List.append_toArray, List.nil_append, List.cons_append]
  have hdw : ∀ k : Nat, (Fence.wide.depth.isSome = true → 1 ≤ k) := fun k h => by cases h
  by_cases hl : 65536 < s.size
  · have hl' : (65536 : Int) < (s.size : Int) := by omega
    have ht : (Lx.toks s.data.toList).1 = [] := by unfold Lx.toks; rw [if_pos (by rw [len_size]; exact hl)]
    have HT := Lib.hid ht
    have HJ := Lib.hid hJ
    clear ht
    gi_wp2_with (refine ⟨trivial, hdw _, ?_⟩; gi_at_call 124; refine (callsIn_wide.2 (lexWrong _ _ _)).mono ?_; rintro e w' ⟨rfl, rfl⟩)
    go_ret
    refine ⟨⟨_, rfl⟩, .inl ?_⟩
    rw [HT.out]
    exact HJ.out _ _ _ none h0 (World.grownBy_alloc _ _ _) (fun r e => nomatch e)
  · have hl' : ¬ (65536 : Int) < (s.size : Int) := by omega
    have ht : Lx.toks s.data.toList = Lx.go (s.size + 1) 0 0 (s.data.toList.drop 0) := by unfold Lx.toks; rw [if_neg (by rw [len_size]; exact hl), len_size]; rfl
    have HT := Lib.hid ht
    clear ht
    gi_wp2
    have hC1 : Cu (w.alloc (.cells #[.string s, .int .i64 0] 171)) w.heap.size s 0 := heap_alloc_new w _
    have hJ1 := hJ _ _ _ none h0 (World.grownBy_alloc w (.cells #[.string s, .int .i64 0] 171) none) (fun r e => nomatch e)
    have hG1 := hG.alloc (.cells #[.string s, .int .i64 0] 171)
    obtain ⟨w1, hw1⟩ : ∃ w1, w.alloc (.cells #[.string s, .int .i64 0] 171) = w1 := ⟨_, rfl⟩
    rw [hw1] at hC1 hJ1 hG1 ⊢
    clear hw1
    have HC1 := Lib.hid hC1
    have HJ := Lib.hid hJ
    clear hC1 h0 hJ
    gi_loopw [6] (fun p wr => ∃ (m i f : Nat) (pre : List (Nat × Lx.Tok)), p = .int .i64 (i : Int) ∧ i ≤ 4096 ∧ m ≤ s.size ∧ Cu wr w.heap.size s m ∧ GS wr ∧ s.size - m < f ∧ J pre wr ∧ pre.length = i ∧
      num 0 (Lx.toks s.data.toList).1 = pre ++ num i (Lx.go f m i (s.data.toList.drop m)).1) (fun p wr => s.size - placeOf w.heap.size wr)
    case atStart => exact ⟨0, 0, s.size + 1, [], rfl, by omega, by omega, HC1.out, hG1, by omega, hJ1, rfl, by rw [HT.out]; rfl⟩
    case round =>
      obtain ⟨m, i, f, pre, rfl, hi, hm, hC, hGr, hf, hJr, hpl, he⟩ := hrel
      have hbl : w.heap.size < wr.heap.size := hC.lt
      obtain ⟨f, rfl⟩ : ∃ f', f = f' + 1 := ⟨f - 1, by omega⟩
      obtain ⟨hq1, hq2, hq3⟩ := skip_at s m hm
      have HE := Lib.hid he
      have HPL := Lib.hid hpl
      have HM := Lib.hid (placeOf_eq hC)
      have hsk := lexSkip s w.heap.size m wr hC hm hs
      have i1 : (i : Int) ≤ 4096 := by omega
      have q1 : ((skipAt s m : Nat) : Int) ≤ (s.size : Int) := by omega
      have hsk' : Calls Tryz.prog 125 #[.pointer (some ⟨w.heap.size, 0, none⟩)] wr fun e w' => e = .returned (.tuple #[]) ∧ Cu w' w.heap.size s (skipAt s m) ∧ w.heap.size < w'.heap.size ∧ GS w' ∧ J pre w' :=
        hsk.mono fun e w' h => ⟨h.1, h.2.1, h.2.1.lt, hGr.grown h.2.2 hN, HJ.out _ _ _ _ hJr h.2.2 (fun r e => by injection e with e; subst e; exact ⟨hB, _, hC, ⟨_, _, rfl⟩⟩)⟩
      clear hsk he hpl hC HC1
      by_cases hq : skipAt s m = s.size
      · have hR : num 0 (Lx.toks s.data.toList).1 = pre := HE.out.trans (by rw [go_end hm hq]; simp [num])
        have HR := Lib.hid hR
        clear hR
        have HQ := Lib.hid hq
        have hqi : ((skipAt s m : Nat) : Int) = (s.size : Int) := by omega
        clear hq
        gi_wp2_with (refine ⟨trivial, hdw _, ?_⟩; gi_at_call 125; refine (callsIn_wide.2 hsk').mono ?_; clear hsk'; rintro e w5 ⟨rfl, hC5, hz5, hG5, hJ5⟩; have c0 := hC5.c0; have c1 := hC5.c1; have cf1 := hC5.f1)
        go_ret
        refine ⟨⟨_, rfl⟩, .inl ?_⟩
        rw [HR.out]
        exact hJ5
      · have hq' : skipAt s m < s.size := by omega
        have hqne : ¬ ((skipAt s m : Nat) : Int) = (s.size : Int) := by omega
        have hqlt : ((skipAt s m : Nat) : Int) < (s.size : Int) := by omega
        have hq0 : (0 : Int) ≤ ((skipAt s m : Nat) : Int) := by omega
        have HQ := Lib.hid hq
        clear hq
        have hqb : (((skipAt s m : Nat) : Int) == (s.size : Int)) = false := by simp; omega
        cases hb : Lx.begins (s[skipAt s m]'hq') with
        | false =>
          have hR : num 0 (Lx.toks s.data.toList).1 = pre := HE.out.trans (by rw [go_byte hm hq' hb]; simp [num])
          have HR := Lib.hid hR
          clear hR
          gi_wp2_with (first | (refine ⟨trivial, hdw _, ?_⟩; gi_at_call 125; refine (callsIn_wide.2 hsk').mono ?_; clear hsk'; rintro e w5 ⟨rfl, hC5, hz5, hG5, hJ5⟩; have c0 := hC5.c0; have c1 := hC5.c1; have cf1 := hC5.f1) | (refine ⟨trivial, hdw _, ?_⟩; gi_at_call 126; refine (callsIn_wide.2 (lexBegins _ _)).mono ?_; rintro e w' ⟨rfl, rfl⟩) | (refine ⟨trivial, hdw _, ?_⟩; gi_at_call 124; refine (callsIn_wide.2 (lexWrong _ _ _)).mono ?_; rintro e w' ⟨rfl, rfl⟩))
          go_ret
          refine ⟨⟨_, rfl⟩, .inl ?_⟩
          rw [HR.out]
          exact HJ.out _ _ _ none hJ5 (World.grownBy_alloc _ _ _) (fun r e => nomatch e)
        | true =>
          by_cases h4 : i = 4096
          · have hR : num 0 (Lx.toks s.data.toList).1 = pre := HE.out.trans (by rw [go_many hm hq' hb h4]; simp [num])
            have HR := Lib.hid hR
            have h4b : ((i : Int) == 4096) = true := by simp; omega
            clear hR h4
            gi_wp2_with (first | (refine ⟨trivial, hdw _, ?_⟩; gi_at_call 125; refine (callsIn_wide.2 hsk').mono ?_; clear hsk'; rintro e w5 ⟨rfl, hC5, hz5, hG5, hJ5⟩; have c0 := hC5.c0; have c1 := hC5.c1; have cf1 := hC5.f1) | (refine ⟨trivial, hdw _, ?_⟩; gi_at_call 126; refine (callsIn_wide.2 (lexBegins _ _)).mono ?_; rintro e w' ⟨rfl, rfl⟩) | (refine ⟨trivial, hdw _, ?_⟩; gi_at_call 124; refine (callsIn_wide.2 (lexWrong _ _ _)).mono ?_; rintro e w' ⟨rfl, rfl⟩))
            go_ret
            refine ⟨⟨_, rfl⟩, .inl ?_⟩
            rw [HR.out]
            exact HJ.out _ _ _ none hJ5 (World.grownBy_alloc _ _ _) (fun r e => nomatch e)
          · have h4b : ((i : Int) == 4096) = false := by simp; omega
            have i2 : (i : Int) < 4096 := by omega
            have i3 : i < 4096 := by omega
            have H4 := Lib.hid h4
            clear h4
            have HB := Lib.hid hb
            cases hc : Lx.cut (skipAt s m) (s.data.toList.drop (skipAt s m)) with
            | bad y x =>
              have hR : num 0 (Lx.toks s.data.toList).1 = pre := HE.out.trans (by rw [go_bad hm hq' hb H4.out hc]; simp [num])
              have HR := Lib.hid hR
              have HX := Lib.hid hc
              clear hR hc
              gi_wp2_with (first | (refine ⟨trivial, hdw _, ?_⟩; gi_at_call 125; refine (callsIn_wide.2 hsk').mono ?_; clear hsk'; rintro e w5 ⟨rfl, hC5, hz5, hG5, hJ5⟩; have c0 := hC5.c0; have c1 := hC5.c1; have cf1 := hC5.f1) | (refine ⟨trivial, hdw _, ?_⟩; gi_at_call 126; refine (callsIn_wide.2 (lexBegins _ _)).mono ?_; rintro e w' ⟨rfl, rfl⟩) | (refine ⟨trivial, hdw _, ?_⟩; gi_at_call 127; refine (callsIn_wide.2 (lexToken s w.heap.size (skipAt s m) _ hC5 hq' hs hG5 hN HB.out)).mono ?_; intro e w6 hres; obtain ⟨g, j, rfl, hg6, hR6, hgl, hC6⟩ := ResIs.bad' HX.out hres; clear hres))
              go_ret
              refine ⟨⟨_, rfl⟩, .inl ?_⟩
              rw [HR.out]
              exact HJ.out _ _ _ none (HJ.out _ _ _ _ hJ5 hg6 (fun r e => by injection e with e; subst e; exact ⟨hB, _, hC5, ⟨_, _, rfl⟩⟩)) (World.grownBy_alloc _ _ _) (fun r e => nomatch e)
            | ok t n =>
              have HX := Lib.hid hc
              have hR := HE.out
              rw [go_ok hm hq' hb H4.out hc] at hR
              have HR := Lib.hid hR
              obtain ⟨hn0, hfit⟩ := cut_fits hq' hc
              clear hR hc
              gi_wp2_with (first | (refine ⟨trivial, hdw _, ?_⟩; gi_at_call 125; refine (callsIn_wide.2 hsk').mono ?_; clear hsk'; rintro e w5 ⟨rfl, hC5, hz5, hG5, hJ5⟩; have c0 := hC5.c0; have c1 := hC5.c1; have cf1 := hC5.f1) | (refine ⟨trivial, hdw _, ?_⟩; gi_at_call 126; refine (callsIn_wide.2 (lexBegins _ _)).mono ?_; rintro e w' ⟨rfl, rfl⟩) | (refine ⟨trivial, hdw _, ?_⟩; gi_at_call 127; refine (callsIn_wide.2 (lexToken s w.heap.size (skipAt s m) _ hC5 hq' hs hG5 hN HB.out)).mono ?_; intro e w6 hres; obtain ⟨rfl, hg6, hC6⟩ := ResIs.ok' HX.out hres; clear hres; have hJ6 := HJ.out _ _ _ none (HJ.out _ _ _ _ hJ5 hg6 (fun r e => by injection e with e; subst e; exact ⟨hB, _, hC5, ⟨_, _, rfl⟩⟩)) (World.grownBy_alloc w6 (.cells #[.int .i64 t.pos, .int .i64 t.kind, .string ⟨t.s.toArray⟩, .int .i64 t.n] 133) none) (fun r e => nomatch e); obtain ⟨fn, tm, asg, bd, hy, hRd⟩ := hY pre (i, t) _ hJ6 (by rw [HR.out]; exact ⟨_, by simp [num]; rfl⟩) (d - 1); dsimp only [encT] at hy))
              refine ⟨hdw _, hRd.mono ?_⟩
              rintro e W3 (⟨rfl, hJ3, hk3⟩ | ⟨rfl, hJx3⟩)
              · have hC3 : Cu W3 w.heap.size s (skipAt s m + n) := hk3.own _ _ (hC6.alloc _) ⟨_, _, rfl⟩
                have hG3 : GS W3 := ((hG5.grown hg6 hN).alloc _).keepT hk3
                gi_wp2
                go_roundw
                case rel => exact ⟨skipAt s m + n, i + 1, f, pre ++ [(i, t)], by simp, by omega, hfit, hC3, hG3, by omega, hJ3, by simp [HPL.out], by rw [HR.out]; simp [num]⟩
                case measure => rw [placeOf_eq hC3, HM.out]; omega
              · gi_wp2
                go_ret
                exact ⟨⟨_, rfl⟩, .inr ⟨pre ++ [(i, t)], by rw [HR.out]; exact ⟨_, by simp [num]; rfl⟩, by simp, hJx3⟩⟩

set_option maxHeartbeats 1000000 in
/-- All's function. -/
theorem lexAllFn (d : Nat) (s : ByteArray) (l B Bn : Nat) (J Jx : List (Nat × Lx.Tok) → World → Prop) (hJ : AbI 171 B J) (hJx : AbI 171 B Jx)
    (hY : ∀ pre x W1, J pre W1 → pre ++ [x] <+: num 0 (Lx.toks s.data.toList).1 → ∀ m, YieldAt Fence.wide m Tryz.prog l (encT x) W1 fun e W' =>
      (e = .returned (.bool true) ∧ J (pre ++ [x]) W' ∧ KeepT 171 NG W1 W') ∨ (e = .returned (.bool false) ∧ Jx (pre ++ [x]) W'))
    (w : World) (hB : B ≤ w.heap.size) (hG : GS w) (hN : NG ≤ w.heap.size) (hs : s.size ≤ 140737488351232) (hb : w.cell? ⟨Bn, 0, none⟩ = some (.string s)) (h0 : J [] w) :
    CallsIn Fence.wide d Tryz.prog 128 #[.func (.yield l) #[] #[], .pointer (some ⟨Bn, 0, none⟩)] w fun e W' => (∃ v, e = .returned v) ∧
      (J (num 0 (Lx.toks s.data.toList).1) W' ∨ ∃ pre, pre <+: num 0 (Lx.toks s.data.toList).1 ∧ pre ≠ [] ∧ Jx pre W') := by
  refine callsIn_of_wp Tryz.func128 rfl trivial ?_ rfl
  simp only [Tryz.ntmps128, List.size_toArray, List.length_cons, List.length_nil, Nat.reduceAdd, Nat.reduceSub, Array.replicate_succ, Array.replicate_zero, List.push_toArray, List.append_toArray, List.nil_append, List.cons_append]
  have hdw : ∀ k : Nat, (Fence.wide.depth.isSome = true → 1 ≤ k) := fun k h => by cases h
  have hcut := lexCutY (d - 1) s l B J Jx hJ hJx hY w hB hG hN hs h0
  gi_wp2_with (refine ⟨trivial, hdw _, ?_⟩; gi_at_call 88; refine hcut.mono ?_; clear hcut; rintro e w5 ⟨⟨v, rfl⟩, hor⟩)
  go_end0
  exact ⟨⟨_, rfl⟩, hor⟩

/-- .. as the range's contract. -/
theorem lexAll_seq (s : ByteArray) (Bn d : Nat) (w : World) (hG : GS w) (hN : NG ≤ w.heap.size) (hs : s.size ≤ 140737488351232) (hb : w.cell? ⟨Bn, 0, none⟩ = some (.string s)) :
    SeqT 171 NG Fence.wide d Tryz.prog 128 #[.pointer (some ⟨Bn, 0, none⟩)] encT (fun xs => xs = num 0 (Lx.toks s.data.toList).1) (fun pre => pre <+: num 0 (Lx.toks s.data.toList).1 ∧ pre ≠ [])
      (fun pre x => pre ++ [x] <+: num 0 (Lx.toks s.data.toList).1) w := by
  intro l J Jx W hW hJ hJx hY h0
  have hbl : Bn < w.heap.size := World.block_lt_of_cell? w ⟨Bn, 0, none⟩ hb
  have hb' : W.cell? ⟨Bn, 0, none⟩ = some (.string s) := (World.cell?_of_block (hW.block _ hbl)).trans hb
  refine (lexAllFn d s l W.heap.size Bn J Jx hJ hJx (fun pre x W1 h1 h2 m => yieldAt_any rfl m (hY pre x W1 h1 h2)) W (Nat.le_refl _) (hG.below hW) (by have := hW.size; omega) hs hb' h0).mono ?_
  rintro e W' ⟨hv, h | ⟨pre, hp, hne, hx⟩⟩
  · exact ⟨hv, .inl ⟨_, rfl, h⟩⟩
  · exact ⟨hv, .inr ⟨pre, ⟨hp, hne⟩, hx⟩⟩

end Go.Proofs.YtdncljdfmdgdaaaGreatDoor

namespace Go.Proofs.YtdncljdfmdgdaaaGreatDoor
open Go.RowKit Go.Shelf
set_option linter.unusedSimpArgs false
set_option linter.unusedVariables false
attribute [local go_sem] Oper.semAt_some

theorem lexAll (s : ByteArray) (w : World) : Calls Tryz.prog 90 #[.string s] w fun e w' =>
    e = .returned (.func (.func 128) #[] #[.pointer (some ⟨w.heap.size, 0, none⟩)]) ∧ w' = w.alloc (.cells #[.string s] 9) := by
  go_enter Tryz.func90, Tryz.ntmps90
  go_wp2
  go_ret
  exact ⟨rfl, rfl⟩

/-- A token's cells. -/
def cellsT (t : Lx.Tok) : List Value := [.int .i64 t.pos, .int .i64 t.kind, .string ⟨t.s.toArray⟩, .int .i64 t.n]
def OwnT (w : World) (base : Nat) (v : Value) (l : List Lx.Tok) : Prop := w.ownsRow base 133 4 v l.length (l.flatMap cellsT)
theorem infoTok : (Tryz.prog.info? 133).map (fun i => (i.zero, i.size, i.bytes)) = some (some (.agg #[.int .i64 0, .int .i64 0, .string ⟨#[]⟩, .int .i64 0]), 4, 40) := by kernel_rfl

/-- A row of tokens handed out: its length is its room. -/
def RowT (w : World) (base : Nat) (v : Value) (l : List Lx.Tok) : Prop :=
  (l = [] ∧ v = .slice none 0 0) ∨ ∃ g cur, v = .slice (some ⟨g, 0, none⟩) l.length l.length ∧ base ≤ g ∧ w.heap[g]? = some (.cells cur 133 (0, 0)) ∧ l.length * 4 ≤ cur.size ∧ cur.toList.take (l.length * 4) = l.flatMap cellsT

/-- What Tokens answers. -/
def TokIs (w : World) (r : List Lx.Tok × Option (Nat × Nat)) (e : Ending) (w' : World) : Prop :=
  w.grownBy w' none ∧
  match r.2 with
  | none => ∃ v, e = .returned (.tuple #[v, .nilIface]) ∧ RowT w' w.heap.size v r.1
  | some (y, x) => ∃ g, e = .returned (.tuple #[.slice none 0 0, .iface 130 (.pointer (some ⟨g, 0, none⟩))]) ∧ IsRef w' g x y ∧ w.heap.size ≤ g

theorem num_snd : ∀ (i : Nat) (l : List Lx.Tok), (num i l).map Prod.snd = l
  | _, [] => rfl
  | i, t :: l => by simp [num, num_snd (i + 1) l]
theorem num_length (i : Nat) (l : List Lx.Tok) : (num i l).length = l.length := by rw [← List.length_map (f := Prod.snd), num_snd]
theorem go_length : ∀ (f p i : Nat) (l : Lx.Bytes), (Lx.go f p i l).1.length ≤ f
  | 0, _, _, _ => by simp [Lx.go]
  | f + 1, p, i, l => by
    simp only [Lx.go]
    split
    · simp
    · split
      · simp
      · split
        · simp
        · split
          · simp
          · have := go_length f
            simp only [List.length_cons]
            exact Nat.succ_le_succ (this _ _ _)
theorem toks_length (l : Lx.Bytes) : (Lx.toks l).1.length ≤ 65537 := by
  unfold Lx.toks
  split
  · simp
  · have := go_length (l.length + 1) 0 0 l
    omega
theorem cells_new (w : World) (t : TypeId) (cs : List Value) (j : Nat) (u : Value) (h : cs[j]? = some u) : (w.alloc (.cells cs.toArray t)).cell? ((⟨w.heap.size, 0, none⟩ : Addr).add j) = some u := by
  have h2 := heap_alloc_new w (.cells cs.toArray t)
  have e : (⟨w.heap.size, 0, none⟩ : Addr).add j = ⟨w.heap.size, j, none⟩ := by
    by_cases h0 : j = 0
    · subst h0; simp [Addr.add]
    · simp [Addr.add, h0]
  rw [e, cell_of h2 j]
  simpa using h
theorem row_kind {w : World} {B : Nat} {e : TypeId} {size : Nat} {v : Value} {n : Nat} {xs : List Value} (h : w.ownsRow B e size v n xs) (g : Nat) (hv : v.ownBlock = some g) : B ≤ g ∧ ∃ c, w.heap[g]? = some (.cells c e (0, 0)) := by
  rcases h.2 with ⟨rfl, _⟩ | ⟨g', cap, cur, rfl, hb, hg, _⟩
  · simp [Value.ownBlock] at hv
  · obtain rfl : g' = g := by simpa [Value.ownBlock] using hv
    exact ⟨hb, cur, hg⟩
/-- What is cells of another type lies through a turn. -/
theorem turn_ne {T t k : Nat} {W W' : World} {row : Option Nat} {cs : Array Value} {fr : Nat × Nat} {B : Nat} (hk : W.heap[k]? = some (.cells cs t fr)) (ht : t ≠ T)
    (hr : ∀ r, row = some r → B ≤ r ∧ ∃ o : Obj, W.heap[r]? = some o ∧ (o.isCells = false ∨ OfT T o)) : some k ≠ row := by
  intro e
  obtain ⟨_, o, ho, h⟩ := hr k e.symm
  rw [hk] at ho
  injection ho with ho
  subst ho
  rcases h with h | ⟨_, _, h⟩
  · cases h
  · injection h with h1 h2 h3; exact ht h2
theorem OwnT.turn {W W' : World} {row : Option Nat} {v : Value} {l : List Lx.Tok} {base T B : Nat} (h : OwnT W base v l) (ht : 133 ≠ T) (hg : W.grownBy W' row)
    (hr : ∀ r, row = some r → B ≤ r ∧ ∃ o : Obj, W.heap[r]? = some o ∧ (o.isCells = false ∨ OfT T o)) : OwnT W' base v l := by
  refine World.ownsRow.kept h hg ?_
  cases hv : v.ownBlock with
  | none => exact .inl rfl
  | some g =>
    right
    obtain ⟨_, c, hc⟩ := row_kind h g hv
    exact turn_ne (W' := W') hc ht hr
theorem below_grown {w w' : World} (h : Below w.heap.size w w') : w.grownBy w' none := ⟨h.os, h.tape, h.output, h.size, fun k hk _ => h.block k hk⟩
theorem grown_below {w w' : World} (h : w.grownBy w' none) : Below w.heap.size w w' := ⟨h.os, h.tape, h.output, h.size, fun k hk => h.block k hk (fun e => nomatch e)⟩
theorem Below.turn {w W W' : World} {row : Option Nat} (h : Below w.heap.size w W) (hg : W.grownBy W' row) (hr : ∀ r, row = some r → w.heap.size ≤ r) : Below w.heap.size w W' :=
  ⟨hg.os.trans h.os, hg.tape.trans h.tape, hg.output.trans h.output, Nat.le_trans h.size hg.size, fun k hk => (hg.block k (Nat.lt_of_lt_of_le hk h.size) (fun e => by have := hr k e.symm; omega)).trans (h.block k hk)⟩

set_option maxRecDepth 100000 in
set_option maxHeartbeats 8000000 in
theorem lexTokens (s : ByteArray) (w : World) (hG : GS w) (hN : NG ≤ w.heap.size) (hs : s.size ≤ 140737488351232) :
    Calls Tryz.prog 47 #[.string s] w (TokIs w (Lx.toks s.data.toList)) := by
  refine (callsIn_wide (n := 3)).1 ?_
  refine callsIn_of_wp_marks Tryz.func47 rfl trivial ?_ rfl
  simp only [Tryz.ntmps47, List.size_toArray, List.length_cons, List.length_nil, Nat.reduceAdd, Nat.reduceSub, Array.replicate_succ, Array.replicate_zero, List.push_toArray, List.append_toArray, List.nil_append, List.cons_append]
  have hdw : ∀ k : Nat, (Fence.wide.depth.isSome = true → 1 ≤ k) := fun k h => by cases h
  have hcut := lexCutAll s w hG hN hs
  cases hr : (Lx.toks s.data.toList).2 with
  | some yx =>
    obtain ⟨y, x⟩ := yx
    have HR := Lib.hid hr
    clear hr
    gi_wp2_with (refine ⟨trivial, ?_⟩; gi_at_call 88; refine (callsIn_wide.2 hcut).mono ?_; clear hcut; intro e w5 hend; rw [HR.out] at hend; obtain ⟨hg5, g, rfl, hR5, hgl⟩ := hend)
    refine ⟨_, results_tmp2 rfl _ _ _, hg5, ?_⟩
    rw [HR.out]
    exact ⟨g, rfl, hR5, hgl⟩
  | none =>
    have HR := Lib.hid hr
    clear hr
    gi_wp2_with (first | (refine ⟨trivial, ?_⟩; gi_at_call 88; refine (callsIn_wide.2 hcut).mono ?_; clear hcut; intro e w5 hend; rw [HR.out] at hend; obtain ⟨hg5, rfl⟩ := hend) | (refine ⟨trivial, ?_⟩; gi_at_call 90; refine (callsIn_wide.2 (lexAll _ _)).mono ?_; rintro e w' ⟨rfl, rfl⟩))
    have hl6 : Boxed (w5.alloc (.cells #[.slice none 0 0] 73)) w5.heap.size 73 (.slice none 0 0) := Boxed.new _ _ _
    have hl7 := hl6.alloc (.cells #[.string s] 9)
    have hb7 : ((w5.alloc (.cells #[.slice none 0 0] 73)).alloc (.cells #[.string s] 9)).cell? ⟨w5.heap.size + 1, 0, none⟩ = some (.string s) := by
      have := Boxed.cell (Boxed.new (w5.alloc (.cells #[.slice none 0 0] 73)) 9 (.string s)); rwa [World.size_alloc] at this
    have hg7 : Below w.heap.size w ((w5.alloc (.cells #[.slice none 0 0] 73)).alloc (.cells #[.string s] 9)) := grown_below ((hg5.trans (World.grownBy_alloc _ _ _)).trans (World.grownBy_alloc _ _ _))
    have hs7 : ((w5.alloc (.cells #[.slice none 0 0] 73)).alloc (.cells #[.string s] 9)).heap.size = w5.heap.size + 2 := by simp
    have hs5 := hg5.size
    obtain ⟨L, hL⟩ : ∃ L, w5.heap.size = L := ⟨_, rfl⟩
    rw [hL] at hl7 hb7 hs7 hs5 ⊢
    obtain ⟨w7, hw7⟩ : ∃ w7, (w5.alloc (.cells #[.slice none 0 0] 73)).alloc (.cells #[.string s] 9) = w7 := ⟨_, rfl⟩
    rw [hw7] at hl7 hb7 hg7 hs7 ⊢
    clear hw7 hl6
    have hmx : (1 : Nat) ≤ 3 := by decide
    refine range_T (T := 171) (n₀ := NG) rfl hmx (gf := 128) (lb := #[.pointer (some ⟨L + 1, 0, none⟩)]) rfl trivial (enters_of Tryz.func128 (by kernel_rfl) rfl)
      (lexAll_seq s (L + 1) (3 - 1) w7 (hG.below hg7) (by have := hg7.size; omega) hs hb7) (Below.refl _ _) (by have := hg7.size; omega) (fun _ => rfl)
      (fun pre W => (∃ v, Boxed W L 73 v ∧ OwnT W w.heap.size v (pre.map Prod.snd)) ∧ Below w.heap.size w W) (fun _ _ _ => False)
      (fun x a₁ W => ∃ bx, W.heap[bx]? = some (.cells (cellsT x.2).toArray 133 (0, 0)) ∧ a₁ = { tmps := #[.string s, undef, .slice none 0 0, .nilIface, .pointer none, .pointer (some ⟨L, 0, none⟩), undef, .pointer (some ⟨bx, 0, none⟩), .string s, .pointer none, .pointer none, .bool false, undef, undef, .string s,
          .func (.func 128) #[] #[.pointer (some ⟨L + 1, 0, none⟩)], .int .i64 x.1, .agg #[.int .i64 x.2.pos, .int .i64 x.2.kind, .string ⟨x.2.s.toArray⟩, .int .i64 x.2.n], undef, undef, undef, undef, undef, undef, undef, undef, undef, undef], defers := [] })
      ?hI (fun _ _ _ _ _ hs _ _ => hs) ?hAx ⟨⟨_, hl7, World.ownsRow_nil _ _ _ _⟩, hg7⟩ ?assign ?body ?done ?stop
    case hI =>
      rintro pre W W' row ⟨⟨v, hv, ho⟩, hb⟩ hgr hr
      exact ⟨⟨v, hv.kept hgr (turn_ne (W' := W') hv (by decide) hr), ho.turn (by decide) hgr hr⟩, Below.turn hb hgr (fun r e => by have := (hr r e).1; have := hg7.size; omega)⟩
    case hAx =>
      rintro a₁ x W W' row ⟨bx, hbx, he⟩ hgr hr
      exact ⟨bx, (hgr.block _ (lt_of_block hbx) (turn_ne (W' := W') hbx (by decide) hr)).trans hbx, he⟩
    case assign =>
      intro l pre x W hl hi hrn
      dsimp only [encT]
      gi_wp2
      exact ⟨World.grownBy_alloc _ _ _, W.heap.size, heap_alloc_new _ _, rfl⟩
    case body =>
      rintro l pre x a₁ W hl ⟨⟨v, hv, ho⟩, hb⟩ ⟨bx, hbx, rfl⟩ hrn
      have hc := hv.cell
      have hf := hv.frozen
      obtain ⟨b0, b1, b2, b3⟩ := four_cells hbx
      have hWs := hb.size
      obtain ⟨i0, hi, hz0, hz1, hz2⟩ := info_parts infoTok
      have hlen : pre.length + 1 ≤ 65537 := by
        have h1 := hrn.length_le
        rw [num_length] at h1
        have := toks_length s.data.toList
        simp at h1
        omega
      obtain ⟨k, hk⟩ : ∃ k, (pre.map Prod.snd).length = k := ⟨_, rfl⟩
      have hk1 : k + 1 ≤ 65537 := by rw [← hk]; simpa using hlen
      have ho' : W.ownsRow w.heap.size 133 4 v k ((pre.map Prod.snd).flatMap cellsT) := by rw [← hk]; exact ho
      gi_wp2_with (gi_at_builtin; refine wpListIn_append_own _ rfl _ _ 73 rfl w.heap.size 133 i0 _ 4 40 Tryz.underlying73 hi hz0 hz1 hz2 rfl (by decide) _ _ _ rfl (ho'.alloc _) ⟨W.heap.size, 0, none⟩ 1 1 (cellsT x.2) rfl rfl (cells_new _ _ _) (by simp [cellsT, Value.oneCell']) (by unfold maxLen; omega) (by omega) (by simp; omega) ?_; intro v' w1 hown' hgrow _; obtain ⟨g', cap', rfl⟩ := ownsRow_succ hown'; obtain ⟨hv1, hv2, hr2, hk2, hb2⟩ := hv.appended (by decide) ho' (by omega) (by omega) hown' hgrow; have hc1 := hv1.cell; have hf1 := hv1.frozen)
      have hrow := ho'.alloc (.cells (cellsT x.2).toArray 133)
      have hkeep : KeepT 171 NG W (w1.setCell ⟨L, 0, none⟩ (.slice (some ⟨g', 0, none⟩) (k + 1) cap')) := by
        refine ((KeepT.alloc _ _ W _).trans (KeepT.of_grownBy hgrow ?_)).trans (KeepT.of_grownBy (grown_set _ _ _ _) ?_)
        · intro r e
          obtain ⟨hb1, c, hc'⟩ := row_kind hrow r e
          refine ⟨by omega, ?_⟩
          rintro o hro ⟨cs, fr, rfl⟩
          have hro' := hc'.symm.trans hro
          injection hro' with h
          injection h with h1 h2 h3
          exact absurd h2 (by decide)
        · intro r e
          injection e with e
          subst e
          refine ⟨by omega, ?_⟩
          rintro o hro ⟨cs, fr, rfl⟩
          have hro' := (show w1.heap[L]? = _ from hv1).symm.trans hro
          injection hro' with h
          injection h with h1 h2 h3
          exact absurd h2 (by decide)
      refine ⟨hk2, hkeep, ⟨_, hv2, ?_⟩, hb.trans hb2⟩
      have hlk : ((pre ++ [x]).map Prod.snd).length = k + 1 := by simp [← hk]
      unfold OwnT
      rw [hlk, List.map_append, List.flatMap_append]
      simpa using hr2
    case done =>
      rintro D xs W hD rfl ⟨⟨v, hv, ho⟩, hb⟩ hK
      rw [num_snd] at ho
      have hc := hv.cell
      have hcl := toks_length s.data.toList
      obtain ⟨ts, hts⟩ : ∃ ts, (Lx.toks s.data.toList).1 = ts := ⟨_, rfl⟩
      rw [hts] at ho hcl
      have HTS := Lib.hid hts
      clear hts
      have hDL : D < W.heap.size := lt_of_block hK
      have hgr : w.grownBy (W.putObj D (.deferred none)) none := below_grown (Below.turn hb (grownBy_putObj' W D _) (fun r e => by injection e with e; have := hg7.size; omega))
      rcases ho.2 with ⟨rfl, hn⟩ | ⟨g, cap, cur, rfl, hbg, hgb, hcap, hcm, hcs, htk⟩
      · gi_wp2
        refine ⟨by simp, .inl ⟨_, _, rfl, run_takeDeferred hK, ?_⟩⟩
        refine ⟨_, results_tmp2 rfl _ _ _, hgr, ?_⟩
        rw [HR.out, HTS.out]
        exact ⟨_, rfl, .inl ⟨List.length_eq_zero_iff.1 hn, rfl⟩⟩
      · have n0 : (0 : Int) ≤ (ts.length : Int) := by omega
        have n1 : (ts.length : Int) ≤ (cap : Int) := by omega
        have n2 : (ts.length : Int) ≤ 65537 := by omega
        gi_wp2
        refine ⟨by simp, .inl ⟨_, _, rfl, run_takeDeferred hK, ?_⟩⟩
        refine ⟨_, results_tmp2 rfl _ _ _, hgr, ?_⟩
        rw [HR.out, HTS.out]
        refine ⟨_, rfl, .inr ⟨g, cur, rfl, hbg, ?_, by rw [hcs]; exact Nat.mul_le_mul_right 4 hcap, htk⟩⟩
        exact (World.putObj_heap_other (fun e => by rw [e] at hgb; rw [hgb] at hK; cases hK)).trans hgb
    case stop =>
      rintro D c pre W _ _ h _
      exact h.elim

end Go.Proofs.YtdncljdfmdgdaaaGreatDoor

namespace Go.Proofs.YtdncljdfmdgdaaaGreatDoor
open Go.RowKit Go.Shelf
set_option linter.unusedSimpArgs false
set_option linter.unusedVariables false

namespace Lx
/-- A token's text, unheld. -/
def raw (t : Tok) : Option Bytes :=
  if t.kind = 1 ∨ t.kind = 2 ∨ t.kind = 3 ∨ t.kind = 6 then some t.s
  else if t.kind = 4 then (if t.n < 0 then none else some (Lib.decDigits t.n.toNat))
  else if t.kind = 5 then some (quote t.s) else none
/-- What written answers. -/
def held (t : Tok) (s : Bytes) : Bool :=
  match cut 0 s with
  | .ok x n => n == s.length && x == { t with pos := 0 }
  | .bad _ _ => false
def written (t : Tok) : Bytes × Bool :=
  match raw t with
  | none => ([], false)
  | some [] => ([], false)
  | some (c :: l) => if begins c then (c :: l, held t (c :: l)) else ([], false)
end Lx

theorem tokEq (w : World) (p k n p' k' n' : Int) (s s' : ByteArray) :
    (binOp .eql 133 (.agg #[.int .i64 p, .int .i64 k, .string s, .int .i64 n]) (.agg #[.int .i64 p', .int .i64 k', .string s', .int .i64 n'])).run Tryz.prog w = .ok (.bool (p == p' && (k == k' && (s.toList == s'.toList && n == n')))) w := by
  have h1 : Tryz.prog.underlying 133 = some (.struct (Tryz.prog.fieldsOf 133)) := by kernel_rfl
  have h2 : Tryz.prog.stoodInHeld 133 = false := by kernel_rfl
  rw [run_eql_struct, run_equalIn_agg _ _ _ _ _ h1 h2]
  simp [go_sem]
  by_cases a : p = p'
  · by_cases b : k = k'
    · by_cases c : s.toList = s'.toList
      · by_cases d : n = n' <;> simp [a, b, c, d]
      · simp [a, b, c]
    · simp [a, b]
  · simp [a]
theorem tokBeq (x t : Lx.Tok) : (x == t) = (x.pos == t.pos && (x.kind == t.kind && ((⟨x.s.toArray⟩ : ByteArray).toList == (⟨t.s.toArray⟩ : ByteArray).toList && x.n == t.n))) := by
  rw [ByteArray.toList_mk, ByteArray.toList_mk, Bool.eq_iff_iff]
  simp only [beq_iff_eq, Bool.and_eq_true]
  constructor
  · rintro rfl; exact ⟨rfl, rfl, rfl, rfl⟩
  · rintro ⟨a, b, c, d⟩
    cases x; cases t
    simp only at a b c d
    subst a b c d
    rfl
attribute [local go_sem high] tokEq
theorem mk_back (b : ByteArray) : (⟨b.data.toList.toArray⟩ : ByteArray) = b := by cases b; simp
theorem nD_le : ∀ (k u : Nat), u < 10 ^ (k + 1) → Lib.nDigits u ≤ k + 1
  | 0, u, h => by rw [Lib.nDigits_small (by simpa using h)]; exact Nat.le_refl _
  | k + 1, u, h => by
    by_cases hu : u < 10
    · rw [Lib.nDigits_small hu]; omega
    · rw [Lib.nDigits_big hu]
      have := nD_le k (u / 10) (by rw [Nat.pow_succ] at h; omega)
      omega

set_option maxHeartbeats 4000000 in
set_option maxRecDepth 100000 in
theorem lexWritten (t : Lx.Tok) (w : World) (hG : GS w) (hN : NG ≤ w.heap.size) (hs : t.s.length ≤ 1000000000) (hn0 : -9223372036854775808 ≤ t.n) (hn1 : t.n ≤ 9223372036854775807) :
    Calls Tryz.prog 91 #[.agg #[.int .i64 t.pos, .int .i64 t.kind, .string ⟨t.s.toArray⟩, .int .i64 t.n]] w fun e w' =>
      e = .returned (.tuple #[.string ⟨(Lx.written t).1.toArray⟩, .bool (Lx.written t).2]) ∧ w.grownBy w' none := by
  go_enter Tryz.func91, Tryz.ntmps91
  have hB := heap_alloc_new w (.cells #[.int .i64 t.pos, .int .i64 t.kind, .string ⟨t.s.toArray⟩, .int .i64 t.n] 133)
  have hgB : w.grownBy (w.alloc (.cells #[.int .i64 t.pos, .int .i64 t.kind, .string ⟨t.s.toArray⟩, .int .i64 t.n] 133)) none := World.grownBy_alloc _ _ _
  have hGB := hG.alloc (.cells #[.int .i64 t.pos, .int .i64 t.kind, .string ⟨t.s.toArray⟩, .int .i64 t.n] 133)
  obtain ⟨b0, b1, b2, b3⟩ := four_cells hB
  have HB := Lib.hid hB
  have HGB := Lib.hid hgB
  clear hB hgB
  go_upto_block 0 with fail
  obtain ⟨w2, hw2⟩ : ∃ w2, w.alloc (.cells #[.int .i64 t.pos, .int .i64 t.kind, .string ⟨t.s.toArray⟩, .int .i64 t.n] 133) = w2 := ⟨_, rfl⟩
  rw [hw2] at b0 b1 b2 b3 HB HGB hGB ⊢
  have hz2 : w.heap.size < w2.heap.size := lt_of_block HB.out
  clear hw2
  go_cut [4] (fun v wx => ∃ sb : ByteArray, v = .string sb ∧ Lx.raw t = some sb.data.toList ∧ w2.grownBy wx none ∧ sb.size ≤ 3000000000)
  case first =>
    have hsl : (⟨t.s.toArray⟩ : ByteArray).data.toList = t.s := rfl
    by_cases k1 : t.kind = 1 ∨ t.kind = 2 ∨ t.kind = 3 ∨ t.kind = 6
    · have hr : Lx.raw t = some t.s := by unfold Lx.raw; rw [if_pos k1]
      have HR := Lib.hid hr
      clear hr
      rcases k1 with k1 | k1 | k1 | k1
      · have e1 : (t.kind == 1) = true := by simp; omega
        clear k1
        go_wp2
        go_meet
        exact ⟨⟨t.s.toArray⟩, rfl, HR.out, World.grownBy.refl _ _, by show t.s.length ≤ _; omega⟩
      · have e1 : (t.kind == 1) = false := by simp; omega
        have e2 : (t.kind == 2) = true := by simp; omega
        clear k1
        go_wp2
        go_meet
        exact ⟨⟨t.s.toArray⟩, rfl, HR.out, World.grownBy.refl _ _, by show t.s.length ≤ _; omega⟩
      · have e1 : (t.kind == 1) = false := by simp; omega
        have e2 : (t.kind == 2) = false := by simp; omega
        have e3 : (t.kind == 3) = true := by simp; omega
        clear k1
        go_wp2
        go_meet
        exact ⟨⟨t.s.toArray⟩, rfl, HR.out, World.grownBy.refl _ _, by show t.s.length ≤ _; omega⟩
      · have e1 : (t.kind == 1) = false := by simp; omega
        have e2 : (t.kind == 2) = false := by simp; omega
        have e3 : (t.kind == 3) = false := by simp; omega
        have e6 : (t.kind == 6) = true := by simp; omega
        clear k1
        go_wp2
        go_meet
        exact ⟨⟨t.s.toArray⟩, rfl, HR.out, World.grownBy.refl _ _, by show t.s.length ≤ _; omega⟩
    · have e1 : (t.kind == 1) = false := by simp; omega
      have e2 : (t.kind == 2) = false := by simp; omega
      have e3 : (t.kind == 3) = false := by simp; omega
      have e6 : (t.kind == 6) = false := by simp; omega
      by_cases k4 : t.kind = 4
      · by_cases hneg : t.n < 0
        · have hr : Lx.raw t = none := by unfold Lx.raw; rw [if_neg k1, if_pos k4, if_pos hneg]
          have HR := Lib.hid (show Lx.written t = ([], false) by unfold Lx.written; rw [hr])
          clear hr k1
          have e4 : (t.kind == 4) = true := by simp; omega
          clear k4
          go_wp2
          refine bodyPost_ret (results_tmp2 rfl _ _ _) rfl ?_
          rw [HR.out]
          exact ⟨rfl, HGB.out⟩
        · have hr : Lx.raw t = some (Lib.decDigits t.n.toNat) := by unfold Lx.raw; rw [if_neg k1, if_pos k4, if_neg hneg]
          have hit : Lib.itoa t.n = Lib.decDigits t.n.toNat := by unfold Lib.itoa; rw [if_neg hneg]
          have HR := Lib.hid hr
          have HI := Lib.hid hit
          clear hr hit k1
          have e4 : (t.kind == 4) = true := by simp; omega
          clear k4
          go_wp2_with (go_at_call 113; refine (Tryz.strconv_Itoa _ hn0 hn1 _ hGB.pow).mono ?_; rintro e w3 ⟨rfl, k, os, rfl⟩)
          go_meet
          refine ⟨⟨(Lib.decDigits t.n.toNat).toArray⟩, by rw [HI.out], HR.out, below_grown (Lib.below_grow _ _ (Nat.le_refl _) _ _), ?_⟩
          show (Lib.decDigits t.n.toNat).length ≤ 3000000000
          rw [Lib.decDigits_length]
          have := nD_le 19 t.n.toNat (by omega)
          omega
      · have e4 : (t.kind == 4) = false := by simp; omega
        by_cases k5 : t.kind = 5
        · have hr : Lx.raw t = some (Lx.quote t.s) := by unfold Lx.raw; rw [if_neg k1, if_neg k4, if_pos k5]
          have HR := Lib.hid hr
          clear hr k1
          have e5 : (t.kind == 5) = true := by simp; omega
          clear k5
          go_wp2_with (go_at_call 114; refine (lexQuote ⟨t.s.toArray⟩ _ (by show t.s.length ≤ _; omega)).mono ?_; rintro e w3 ⟨rfl, hb3⟩)
          go_meet
          refine ⟨⟨(Lx.quote t.s).toArray⟩, rfl, HR.out, below_grown hb3, ?_⟩
          have := Lx.quoteIn_len t.s
          show (Lx.quote t.s).length ≤ _
          simp [Lx.quote]
          omega
        · have e5 : (t.kind == 5) = false := by simp; omega
          have hr : Lx.raw t = none := by unfold Lx.raw; rw [if_neg k1, if_neg k4, if_neg k5]
          have HR := Lib.hid (show Lx.written t = ([], false) by unfold Lx.written; rw [hr])
          clear hr k1 k4 k5
          go_wp2
          refine bodyPost_ret (results_tmp2 rfl _ _ _) rfl ?_
          rw [HR.out]
          exact ⟨rfl, HGB.out⟩
  case rest =>
    obtain ⟨sb, rfl, hr, hg2, hsl⟩ := hcut
    have HR := Lib.hid hr
    clear hr
    have hgW : w.grownBy wc none := HGB.out.trans hg2
    have hGc : GS wc := hG.below (grown_below hgW)
    have hszc := hg2.size
    have hBc := (hg2.block _ hz2 (fun e => nomatch e)).trans HB.out
    have hgW3 := hgW.trans (World.grownBy_alloc wc (.cells #[.string sb, .int .i64 0] 171) none)
    by_cases hz : sb.size = 0
    · have hnil : sb.data.toList = [] := List.length_eq_zero_iff.1 (by rw [len_size]; exact hz)
      have hE : sb.toList.isEmpty = true := by rw [ByteArray.toList_eq, hnil]; rfl
      have HW := Lib.hid (show Lx.written t = ([], false) by unfold Lx.written; rw [HR.out, hnil])
      clear hz hnil
      go_wp2
      refine bodyPost_ret (results_tmp2 rfl _ _ _) rfl ?_
      rw [HW.out]
      exact ⟨rfl, hgW3⟩
    · have hz' : 0 < sb.size := by omega
      have hd := byte_at sb 0 hz'
      rw [List.drop_zero] at hd
      have hE : sb.toList.isEmpty = false := by rw [ByteArray.toList_eq, hd]; rfl
      have HD := Lib.hid hd
      clear hz hd
      have hC3 : Cu (wc.alloc (.cells #[.string sb, .int .i64 0] 171)) wc.heap.size sb 0 := heap_alloc_new wc _
      have hG3 := hGc.alloc (.cells #[.string sb, .int .i64 0] 171)
      have hB3 := heap_alloc hBc (.cells #[.string sb, .int .i64 0] 171)
      have hN3 : NG ≤ wc.heap.size := by omega
      have hlt3 := lt_of_block hB3
      cases hb : Lx.begins (sb[0]'hz') with
      | false =>
        have HW := Lib.hid (show Lx.written t = ([], false) by unfold Lx.written; rw [HR.out, HD.out]; simp [hb])
        go_wp2_with (go_at_call 126; refine (lexBegins _ _).mono ?_; rintro e w' ⟨rfl, rfl⟩)
        refine bodyPost_ret (results_tmp2 rfl _ _ _) rfl ?_
        rw [HW.out]
        exact ⟨rfl, hgW3⟩
      | true =>
        have HBG := Lib.hid hb
        have HW := Lib.hid (show Lx.written t = (sb.data.toList, Lx.held t sb.data.toList) by unfold Lx.written; rw [HR.out, HD.out]; simp [hb])
        have hlen : sb.data.toList.length = sb.size := len_size sb
        cases hc : Lx.cut 0 (sb.data.toList.drop 0) with
        | bad y x =>
          have HX := Lib.hid hc
          have HH := Lib.hid (show Lx.held t sb.data.toList = false by unfold Lx.held; rw [List.drop_zero] at hc; rw [hc])
          clear hc hlen
          go_wp2_with (first | (go_at_call 126; refine (lexBegins _ _).mono ?_; rintro e w' ⟨rfl, rfl⟩) | (go_at_call 127; refine (lexToken sb wc.heap.size 0 _ hC3 hz' (by omega) hG3 hN3 HBG.out).mono ?_; intro e w6 hres; obtain ⟨g, j, rfl, hg6, hR6, hgl, hC6⟩ := ResIs.bad' HX.out hres; clear hres; have hB6 := (hg6.block _ hlt3 (by simp; omega)).trans hB3; obtain ⟨b0, b1, b2, b3⟩ := four_cells hB6; obtain ⟨f0, f1, f2, f3⟩ := four_free hB6; have c1 := hC6.c1; have hlt6 := lt_of_block hB6; have hlc6 := hC6.lt))
          go_quiet (fail)
          go_wp2
          refine bodyPost_ret (results_tmp2 rfl _ _ _) rfl ?_
          rw [HW.out, HH.out]
          refine ⟨?_, (((grown_in (grown_in hgW3 hg6 (by omega)) (grown_set _ _ _ _) (Nat.le_refl _)).trans (World.grownBy_alloc _ _ _)).trans (grown_drewN _ _ _))⟩
          simp only [mk_back]
          rfl
        | ok x n =>
          have HX := Lib.hid hc
          have HH := Lib.hid (show Lx.held t sb.data.toList = (n == sb.size && x == { t with pos := 0 }) by unfold Lx.held; rw [List.drop_zero] at hc; rw [hc, hlen])
          clear hc hlen
          go_wp2_with (first | (go_at_call 126; refine (lexBegins _ _).mono ?_; rintro e w' ⟨rfl, rfl⟩) | (go_at_call 127; refine (lexToken sb wc.heap.size 0 _ hC3 hz' (by omega) hG3 hN3 HBG.out).mono ?_; intro e w6 hres; obtain ⟨rfl, hg6, hC6⟩ := ResIs.ok' HX.out hres; rw [Nat.zero_add] at hC6; clear hres; have hB6 := (hg6.block _ hlt3 (by simp; omega)).trans hB3; obtain ⟨b0, b1, b2, b3⟩ := four_cells hB6; obtain ⟨f0, f1, f2, f3⟩ := four_free hB6; have c1 := hC6.c1; have hlt6 := lt_of_block hB6; have hlc6 := hC6.lt))
          by_cases hn : n = sb.size
          · have hnb : (n == sb.size) = true := by simp [hn]
            have hni : ((n : Int) == (sb.size : Int)) = true := by simp; omega
            clear hn
            go_quiet (fail)
            go_wp2
            refine bodyPost_ret (results_tmp2 rfl _ _ _) rfl ?_
            rw [HW.out, HH.out, hnb, tokBeq]
            refine ⟨?_, (((grown_in (grown_in hgW3 hg6 (by omega)) (grown_set _ _ _ _) (Nat.le_refl _)).trans (World.grownBy_alloc _ _ _)).trans (grown_drewN _ _ _))⟩
            simp only [mk_back, ByteArray.toList_mk, Bool.true_and, Bool.false_and]
            rfl
          · have hnb : (n == sb.size) = false := by simp [hn]
            have hni : ((n : Int) == (sb.size : Int)) = false := by simp; omega
            clear hn
            go_quiet (fail)
            go_wp2
            refine bodyPost_ret (results_tmp2 rfl _ _ _) rfl ?_
            rw [HW.out, HH.out, hnb, tokBeq]
            refine ⟨?_, (((grown_in (grown_in hgW3 hg6 (by omega)) (grown_set _ _ _ _) (Nat.le_refl _)).trans (World.grownBy_alloc _ _ _)).trans (grown_drewN _ _ _))⟩
            simp only [mk_back, ByteArray.toList_mk, Bool.true_and, Bool.false_and]
            rfl

end Go.Proofs.YtdncljdfmdgdaaaGreatDoor

namespace Go.Proofs.YtdncljdfmdgdaaaGreatDoor
open Go.RowKit Go.Shelf
set_option linter.unusedSimpArgs false
set_option linter.unusedVariables false

namespace Lx
def joinStep (i : Nat) (b s : Bytes) : Bytes := if 65536 < b.length then b else (if 0 < i then b ++ [32] else b) ++ s
def joinFrom : Nat → Bytes → List Tok → Option Bytes
  | _, b, [] => some b
  | i, b, t :: l => if (written t).2 then joinFrom (i + 1) (joinStep i b (written t).1) l else none
def join (l : List Tok) : Bytes × Nat :=
  match joinFrom 0 [] l with
  | none => ([], 1)
  | some b => if 65536 < b.length then ([], 2) else if 4096 < l.length then ([], 3) else (b, 0)
theorem written_len (t : Tok) (hs : t.s.length ≤ 1000000000) (hn1 : t.n ≤ 9223372036854775807) : (written t).1.length ≤ 3000000000 := by
  have h : ∀ s, raw t = some s → s.length ≤ 3000000000 := by
    intro s h
    unfold raw at h
    split at h
    · injection h with h; subst h; omega
    · split at h
      · split at h
        · cases h
        · injection h with h; subst h
          rw [Lib.decDigits_length]
          have := nD_le 19 t.n.toNat (by omega)
          omega
      · split at h
        · injection h with h; subst h
          have := quoteIn_len t.s
          simp [quote]
          omega
        · cases h
  unfold written
  split
  · simp
  · simp
  · rename_i c l he
    split
    · exact h _ he
    · simp
end Lx

/-- A row of tokens, read from its block's head. -/
def ToksIn (w : World) (v : Value) (ts : List Lx.Tok) : Prop :=
  (ts = [] ∧ ∃ a c, v = .slice a 0 c) ∨ ∃ g c cur fr, v = .slice (some ⟨g, 0, none⟩) ts.length c ∧ w.heap[g]? = some (.cells cur 133 fr) ∧ cur.toList.take (ts.length * 4) = ts.flatMap cellsT
theorem flat_at (ts : List Lx.Tok) : ∀ (m : Nat) (h : m < ts.length) (q : Nat), q < 4 → (ts.flatMap cellsT)[m * 4 + q]? = (cellsT (ts[m]'h))[q]? := by
  induction ts with
  | nil => intro m h; simp at h
  | cons t ts ih =>
    intro m h q hq
    rw [List.flatMap_cons]
    cases m with
    | zero => rw [List.getElem?_append_left (by simp [cellsT]; omega)]; simp
    | succ m =>
      rw [List.getElem?_append_right (by simp [cellsT]; omega)]
      have e : (m + 1) * 4 + q - (cellsT t).length = m * 4 + q := by simp [cellsT]; omega
      rw [e, ih m (by simpa using h) q hq]
      rfl
theorem toks_at {w : World} {ts : List Lx.Tok} {g m : Nat} {cur : Array Value} {fr : Nat × Nat} (hg : w.heap[g]? = some (.cells cur 133 fr)) (hc : cur.toList.take (ts.length * 4) = ts.flatMap cellsT) (h : m < ts.length) :
    w.cell? ⟨g, m * 4, none⟩ = some (.int .i64 (ts[m]'h).pos) ∧ w.cell? ⟨g, m * 4 + 1, none⟩ = some (.int .i64 (ts[m]'h).kind) ∧ w.cell? ⟨g, m * 4 + 2, none⟩ = some (.string ⟨(ts[m]'h).s.toArray⟩) ∧ w.cell? ⟨g, m * 4 + 3, none⟩ = some (.int .i64 (ts[m]'h).n) := by
  have e : ∀ q, q < 4 → w.cell? ⟨g, m * 4 + q, none⟩ = (cellsT (ts[m]'h))[q]? := by
    intro q hq
    rw [cell_of hg, ← Array.getElem?_toList, ← flat_at ts m h q hq, ← hc, List.getElem?_take_of_lt (by omega)]
  exact ⟨e 0 (by omega), e 1 (by omega), e 2 (by omega), e 3 (by omega)⟩
theorem Bld.kept {B b : Nat} {l : List UInt8} {w w' : World} (h : Bld B b l w) (hg : w.grownBy w' none) : Bld B b l w' := by
  have e : ∀ p, Lib.BuilderAt 100 5 B b p (Lib.byteCells l) w → Lib.BuilderAt 100 5 B b p (Lib.byteCells l) w' := by
    rintro p ⟨hB, v, hb, ho, hne⟩
    exact ⟨hB, v, (hg.block b (lt_of_block hb) (fun e => nomatch e)).trans hb, ho.kept hg (by cases v.ownBlock <;> simp), hne⟩
  exact h.imp (e _) (e _)

theorem bldLen (B b : Nat) (l : List UInt8) (w : World) (h : Bld B b l w) : Calls Tryz.prog 92 #[.pointer (some ⟨b, 0, none⟩)] w fun e w' => e = .returned (.int .i64 l.length) ∧ w' = w := by
  refine (Tryz.Builder_Len B b _ w h).mono ?_
  rintro e w' ⟨rfl, rfl⟩
  exact ⟨by rw [byteCells_length], rfl⟩

set_option maxHeartbeats 4000000 in
set_option maxRecDepth 100000 in
theorem lexJoin (ts : List Lx.Tok) (v : Value) (w : World) (hG : GS w) (hN : NG ≤ w.heap.size) (hv : ToksIn w v ts) (hl : ts.length ≤ 1000000000)
    (hts : ∀ t ∈ ts, t.s.length ≤ 1000000000 ∧ -9223372036854775808 ≤ t.n ∧ t.n ≤ 9223372036854775807) :
    Calls Tryz.prog 48 #[v] w fun e w' => e = .returned (.tuple #[.string ⟨(Lx.join ts).1.toArray⟩, .int .i64 (Lx.join ts).2]) ∧ Below w.heap.size w w' := by
  obtain ⟨a0, cp, rfl⟩ : ∃ a0 c, v = .slice a0 ts.length c := by
    rcases hv with ⟨rfl, a, c, rfl⟩ | ⟨g, c, cur, fr, rfl, _⟩
    · exact ⟨a, c, rfl⟩
    · exact ⟨_, c, rfl⟩
  have HV := Lib.hid hv
  clear hv
  go_enter Tryz.func48, Tryz.ntmps48
  have h0 : Bld w.heap.size w.heap.size [] (w.alloc (.cells #[.pointer none, .slice none 0 0] 100)) := Lib.fresh_isBuilder _ _ _
  have hb0 : Below w.heap.size w (w.alloc (.cells #[.pointer none, .slice none 0 0] 100)) := (Below.refl _ w).alloc (Nat.le_refl _) _
  have HJ : Hid (Lx.join ts = match Lx.joinFrom 0 [] ts with | none => ([], 1) | some b => if 65536 < b.length then ([], 2) else if 4096 < ts.length then ([], 3) else (b, 0)) := rfl
  go_wp2
  have H0 := Lib.hid h0
  have HB0 := Lib.hid hb0
  clear h0 hb0
  go_loopg [11] (ts.length) (fun n v wr => ∃ (m : Nat) (b : List UInt8), n = ts.length - m ∧ v = .int .i64 (m : Int) ∧ m ≤ ts.length ∧ Bld w.heap.size w.heap.size b wr ∧ Below w.heap.size w wr ∧ b.length ≤ 3000100000 ∧ Lx.joinFrom m b (ts.drop m) = Lx.joinFrom 0 [] ts)
  case atStart => exact ⟨0, [], rfl, rfl, Nat.zero_le _, H0.out, HB0.out, by simp, rfl⟩
  case round =>
    obtain ⟨m, b, hn, rfl, hm, hB, hb, hbl, he⟩ := hrel
    have HN := Lib.hid hn
    have HE := Lib.hid he
    clear hn he H0 HB0
    by_cases hlt : m < ts.length
    · have hi : (m : Int) < (ts.length : Int) := by omega
      have hi0 : (0 : Int) ≤ (m : Int) := by omega
      have hmi : (m : Int) ≤ 1000000000 := by omega
      obtain ⟨g, cur, fr, rfl, hgb, hcur⟩ : ∃ g cur fr, a0 = some ⟨g, 0, none⟩ ∧ w.heap[g]? = some (.cells cur 133 fr) ∧ cur.toList.take (ts.length * 4) = ts.flatMap cellsT := by
        rcases HV.out with ⟨h, _⟩ | ⟨g, c, cur, fr, h, h1, h2⟩
        · rw [h] at hlt; simp at hlt
        · injection h with h _ _; exact ⟨g, cur, fr, h, h1, h2⟩
      have hgl := lt_of_block hgb
      have hgb' := (hb.block g hgl).trans hgb
      obtain ⟨t0, t1, t2, t3⟩ := toks_at hgb' hcur hlt
      have hgl' := lt_of_block hgb'
      obtain ⟨t, ht⟩ : ∃ t, ts[m]'hlt = t := ⟨_, rfl⟩
      rw [ht] at t0 t1 t2 t3
      obtain ⟨ht1, ht2, ht3⟩ := hts t (by rw [← ht]; exact List.getElem_mem hlt)
      have HTM := Lib.hid (show ts.drop m = t :: ts.drop (m + 1) by rw [List.drop_eq_getElem_cons hlt, ht])
      clear ht hgb hgb'
      have hwr : Calls Tryz.prog 91 #[.agg #[.int .i64 t.pos, .int .i64 t.kind, .string ⟨t.s.toArray⟩, .int .i64 t.n]] (wr.alloc (.cells #[.int .i64 t.pos, .int .i64 t.kind, .string ⟨t.s.toArray⟩, .int .i64 t.n] 133)) fun e w' =>
          e = .returned (.tuple #[.string ⟨(Lx.written t).1.toArray⟩, .bool (Lx.written t).2]) ∧ (wr.alloc (.cells #[.int .i64 t.pos, .int .i64 t.kind, .string ⟨t.s.toArray⟩, .int .i64 t.n] 133)).grownBy w' none ∧ Below w.heap.size w w' ∧ Bld w.heap.size w.heap.size b w' :=
        (lexWritten t _ ((hG.below hb).alloc _) (by have := hb.size; simp; omega) ht1 ht2 ht3).mono fun e w' h => ⟨h.1, h.2, grown_below (((below_grown hb).trans (World.grownBy_alloc _ _ _)).trans h.2), (hB.kept (World.grownBy_alloc _ _ _)).kept h.2⟩
      have hwl := Lx.written_len t ht1 ht3
      obtain ⟨x, hx⟩ : ∃ x, (Lx.written t).1 = x := ⟨_, rfl⟩
      rw [hx] at hwr hwl
      have HXX := Lib.hid hx
      clear hx
      have hjf : Lx.joinFrom m b (ts.drop m) = if (Lx.written t).2 then Lx.joinFrom (m + 1) (Lx.joinStep m b x) (ts.drop (m + 1)) else none := by
        rw [HTM.out]; show (if (Lx.written t).2 then Lx.joinFrom (m + 1) (Lx.joinStep m b (Lx.written t).1) (ts.drop (m + 1)) else none) = _
        rw [HXX.out]
      have HJF := Lib.hid (HE.out.symm.trans hjf)
      clear hjf
      cases hok : (Lx.written t).2 with
      | false =>
        have HR := Lib.hid (show Lx.join ts = ([], 1) by rw [HJ.out, HJF.out, hok]; rfl)
        rw [hok] at hwr
        clear hok
        go_wp2_with (go_at_call 91; refine hwr.mono ?_; clear hwr; rintro e w5 ⟨rfl, hg5, hb5, hB5⟩; have hs5 := hb5.size)
        refine bodyPost_ret (results_tmp2 rfl _ _ _) rfl ?_
        rw [HR.out]
        exact ⟨rfl, hb5⟩
      | true =>
        have HR := Lib.hid (show Lx.joinFrom (m + 1) (Lx.joinStep m b x) (ts.drop (m + 1)) = Lx.joinFrom 0 [] ts by rw [HJF.out, hok]; rfl)
        rw [hok] at hwr
        clear hok
        by_cases hbig : 65536 < b.length
        · have hbi : (65536 : Int) < (b.length : Int) := by omega
          have hst : Lx.joinStep m b x = b := by unfold Lx.joinStep; rw [if_pos hbig]
          rw [hst] at HR
          clear hst
          go_wp2_with (first | (go_at_call 91; refine hwr.mono ?_; clear hwr; rintro e w5 ⟨rfl, hg5, hb5, hB5⟩; have hs5 := hb5.size) | (go_at_call 92; refine (bldLen _ _ _ _ hB5).mono ?_; rintro e w' ⟨rfl, rfl⟩))
          go_roundg (ts.length - (m + 1))
          case measure => have := HN.out; omega
          case rel => exact ⟨m + 1, b, rfl, by simp, hlt, hB5, hb5, hbl, HR.out⟩
        · have hbi : ¬ (65536 : Int) < (b.length : Int) := by omega
          by_cases hm0 : 0 < m
          · have hm0i : (0 : Int) < (m : Int) := by omega
            have hst : Lx.joinStep m b x = b ++ [32] ++ x := by unfold Lx.joinStep; rw [if_neg hbig, if_pos hm0]
            rw [hst] at HR
            clear hst
            go_wp2_with (first | (go_at_call 91; refine hwr.mono ?_; clear hwr; rintro e w5 ⟨rfl, hg5, hb5, hB5⟩; have hs5 := hb5.size) | (go_at_call 92; refine (bldLen _ _ _ _ hB5).mono ?_; rintro e w' ⟨rfl, rfl⟩) | (go_at_call 93; refine (bldByte w.heap.size w.heap.size b 32 _ hB5 (by omega) hs5).mono ?_; rintro e w6 ⟨rfl, h6, hb6⟩) | (go_at_call 94; refine (bldStr w.heap.size w.heap.size (b ++ [32]) ⟨x.toArray⟩ _ h6 (by show (b ++ [32]).length + x.length ≤ _; simp; omega) (by have := hb6.size; omega)).mono ?_; rintro e w7 ⟨rfl, h7, hb7⟩))
            go_roundg (ts.length - (m + 1))
            case measure => have := HN.out; omega
            case rel => exact ⟨m + 1, _, rfl, by simp, hlt, h7, (hb5.trans hb6).trans hb7, by show (b ++ [32] ++ x).length ≤ _; simp; omega, HR.out⟩
          · have hm0i : ¬ (0 : Int) < (m : Int) := by omega
            have hst : Lx.joinStep m b x = b ++ x := by unfold Lx.joinStep; rw [if_neg hbig, if_neg hm0]
            rw [hst] at HR
            clear hst
            go_wp2_with (first | (go_at_call 91; refine hwr.mono ?_; clear hwr; rintro e w5 ⟨rfl, hg5, hb5, hB5⟩; have hs5 := hb5.size) | (go_at_call 92; refine (bldLen _ _ _ _ hB5).mono ?_; rintro e w' ⟨rfl, rfl⟩) | (go_at_call 94; refine (bldStr w.heap.size w.heap.size b ⟨x.toArray⟩ _ hB5 (by show b.length + x.length ≤ _; omega) hs5).mono ?_; rintro e w7 ⟨rfl, h7, hb7⟩))
            go_roundg (ts.length - (m + 1))
            case measure => have := HN.out; omega
            case rel => exact ⟨m + 1, _, rfl, by simp, hlt, h7, hb5.trans hb7, by show (b ++ x).length ≤ _; simp; omega, HR.out⟩
    · have hme : m = ts.length := by omega
      have hi : ¬ (m : Int) < (ts.length : Int) := by omega
      have hjf : Lx.joinFrom 0 [] ts = some b := by
        rw [← HE.out, List.drop_eq_nil_of_le (by omega)]; rfl
      have HR := Lib.hid (show Lx.join ts = if 65536 < b.length then ([], 2) else if 4096 < ts.length then ([], 3) else (b, 0) by rw [HJ.out, hjf])
      clear hjf hme
      have hB5 := hB
      by_cases hbig : 65536 < b.length
      · have hbi : (65536 : Int) < (b.length : Int) := by omega
        have HR2 := Lib.hid (show Lx.join ts = ([], 2) by rw [HR.out, if_pos hbig])
        go_wp2_with (first | (go_at_call 92; refine (bldLen _ _ _ _ hB5).mono ?_; rintro e w' ⟨rfl, rfl⟩))
        refine bodyPost_ret (results_tmp2 rfl _ _ _) rfl ?_
        rw [HR2.out]
        exact ⟨rfl, hb⟩
      · have hbi : ¬ (65536 : Int) < (b.length : Int) := by omega
        by_cases hmany : 4096 < ts.length
        · have hmi : (4096 : Int) < (ts.length : Int) := by omega
          have HR2 := Lib.hid (show Lx.join ts = ([], 3) by rw [HR.out, if_neg hbig, if_pos hmany])
          go_wp2_with (first | (go_at_call 92; refine (bldLen _ _ _ _ hB5).mono ?_; rintro e w' ⟨rfl, rfl⟩))
          refine bodyPost_ret (results_tmp2 rfl _ _ _) rfl ?_
          rw [HR2.out]
          exact ⟨rfl, hb⟩
        · have hmi : ¬ (4096 : Int) < (ts.length : Int) := by omega
          have HR2 := Lib.hid (show Lx.join ts = (b, 0) by rw [HR.out, if_neg hbig, if_neg hmany])
          go_wp2_with (first | (go_at_call 92; refine (bldLen _ _ _ _ hB5).mono ?_; rintro e w' ⟨rfl, rfl⟩) | (go_at_call 95; refine (Tryz.Builder_String_any w.heap.size w.heap.size _ _ hB5 hb.size).mono ?_; rintro e w4 ⟨rfl, hb4⟩))
          refine bodyPost_ret (results_tmp2 rfl _ _ _) rfl ?_
          rw [HR2.out]
          exact ⟨rfl, hb.trans hb4⟩

end Go.Proofs.YtdncljdfmdgdaaaGreatDoor

namespace Go.Proofs.YtdncljdfmdgdaaaGreatDoor
open Go.RowKit Go.Shelf
set_option linter.unusedSimpArgs false
set_option linter.unusedVariables false

theorem ToksIn.below {w w' : World} {v : Value} {ts : List Lx.Tok} (h : ToksIn w v ts) (hb : Below w.heap.size w w') : ToksIn w' v ts := by
  rcases h with h | ⟨g, c, cur, fr, h1, h2, h3⟩
  · exact .inl h
  · exact .inr ⟨g, c, cur, fr, h1, (hb.block g (lt_of_block h2)).trans h2, h3⟩
theorem ToksIn.slice {w : World} {v : Value} {ts : List Lx.Tok} (h : ToksIn w v ts) : ∃ a c, v = .slice a ts.length c := by
  rcases h with ⟨rfl, a, c, rfl⟩ | ⟨g, c, cur, fr, rfl, _⟩
  · exact ⟨a, c, rfl⟩
  · exact ⟨_, c, rfl⟩
theorem ToksIn.at {w : World} {ts : List Lx.Tok} {a : Option Addr} {c m : Nat} (h : ToksIn w (.slice a ts.length c) ts) (hm : m < ts.length) : ∃ g cur fr, a = some ⟨g, 0, none⟩ ∧ w.heap[g]? = some (.cells cur 133 fr) ∧ cur.toList.take (ts.length * 4) = ts.flatMap cellsT := by
  rcases h with ⟨h, _⟩ | ⟨g, c, cur, fr, h, h1, h2⟩
  · rw [h] at hm; simp at hm
  · injection h with h _ _; exact ⟨g, cur, fr, h, h1, h2⟩
theorem Below.drewN {B : Nat} {w W : World} (h : Below B w W) (n : Nat) : Below B w (W.drewN n) := ⟨h.os, h.tape, h.output, h.size, h.block⟩
theorem take_step {α : Type} {ts us : List α} {m : Nat} (h : ts.take m = us.take m) (h1 : m < ts.length) (h2 : m < us.length) (e : ts[m] = us[m]) : ts.take (m + 1) = us.take (m + 1) := by
  rw [List.take_succ_eq_append_getElem h1, List.take_succ_eq_append_getElem h2, h, e]

end Go.Proofs.YtdncljdfmdgdaaaGreatDoor

namespace Go.Proofs.YtdncljdfmdgdaaaGreatDoor
open Go.RowKit Go.Shelf
set_option linter.unusedSimpArgs false
set_option linter.unusedVariables false

structure GL (w : World) : Prop where
  gs : GS w
theorem GL.below {w w' : World} (h : GL w) (hb : Below w.heap.size w w') : GL w' := ⟨h.gs.below hb⟩
theorem GL.alloc {w : World} (h : GL w) (o : Obj) : GL (w.alloc o) := h.below (grown_below (World.grownBy_alloc _ _ _))
theorem row_toks {w w' : World} {v : Value} {ts : List Lx.Tok} {base : Nat} (h : RowT w base v ts) : ToksIn w v ts := by
  rcases h with ⟨rfl, rfl⟩ | ⟨g, cur, rfl, _, h1, h2, h3⟩
  · exact .inl ⟨rfl, none, 0, rfl⟩
  · exact .inr ⟨g, _, cur, _, rfl, h1, h3⟩

/-- A law's world: nothing that was there is touched. -/
structure LW (w W : World) : Prop where
  b : Below w.heap.size w W
  g : GL W
  n : NG ≤ W.heap.size
theorem LW.refl {w : World} (hG : GL w) (hN : NG ≤ w.heap.size) : LW w w := ⟨Below.refl _ _, hG, hN⟩
theorem LW.go {w W W' : World} (h : LW w W) (hb : Below W.heap.size W W') : LW w W' :=
  ⟨h.b.trans (hb.mono h.b.size), h.g.below hb, Nat.le_trans h.n hb.size⟩
theorem LW.alloc {w W : World} (h : LW w W) (o : Obj) : LW w (W.alloc o) := h.go (grown_below (World.grownBy_alloc _ _ _))
theorem LW.drewN {w W : World} (h : LW w W) (n : Nat) : LW w (W.drewN n) := h.go (Below.drewN (Below.refl _ _) n)

theorem lwTokens {w W : World} (h : LW w W) (s : ByteArray) (hs : s.size ≤ 140737488351232) : Calls Tryz.prog 47 #[.string s] W fun e W' => LW w W' ∧ Below W.heap.size W W' ∧ TokIs W (Lx.toks s.data.toList) e W' :=
  (lexTokens s W h.g.gs h.n hs).mono fun e W' h' => ⟨h.go (grown_below h'.1), grown_below h'.1, h'⟩

end Go.Proofs.YtdncljdfmdgdaaaGreatDoor
