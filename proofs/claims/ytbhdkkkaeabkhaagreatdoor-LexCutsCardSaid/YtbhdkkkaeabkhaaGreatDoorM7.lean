/-
  The walk of 'cut' with a yield for its callee; All's function.
  The walks of All and Tokens.
  The walks of an error's own methods: Where, Errno.Error, (*Refusal).Error.
-/
import Derived.Test.YtbhdkkkaeabkhaaGreatDoorM6
import Derived.Lib.AppendIntMem
namespace Go.Proofs.YtbhdkkkaeabkhaaGreatDoor
open Go.RowKit Go.Shelf
set_option linter.unusedSimpArgs false
set_option linter.unusedVariables false
attribute [local go_sem] Oper.semAt_some

/-- Tokens with their numbers. -/
def num : Nat → List Lx.Tok → List (Nat × Lx.Tok)
  | _, [] => []
  | i, t :: l => (i, t) :: num (i + 1) l
def encT (x : Nat × Lx.Tok) : Array Value := #[.int .i64 x.1, .agg #[.int .i64 x.2.pos, .int .i64 x.2.kind, .string ⟨x.2.s.toArray⟩, .int .i64 x.2.n]]
/-- Where a cutter stands, read off the world. -/
def placeOf (b : Nat) (w : World) : Nat := match w.cell? ⟨b, 1, none⟩ with | some (.int _ n) => n.toNat | _ => 0
theorem placeOf_eq {w : World} {b m : Nat} {s : ByteArray} (h : Cu w b s m) : placeOf b w = m := by
  unfold placeOf
  rw [h.c1]
  simp
theorem GS.keepT {T : Nat} {w w' : World} (h : GS w) (hk : KeepT T NG w w') : GS w' := h.of_heap fun k hn hk' => hk.low k hn hk'

set_option maxRecDepth 100000 in
set_option maxHeartbeats 8000000 in
theorem lexCutY (d : Nat) (s : ByteArray) (l B : Nat) (J Jx : List (Nat × Lx.Tok) → World → Prop) (hJ : AbI 102 B J) (hJx : AbI 102 B Jx)
    (hY : ∀ pre x W1, J pre W1 → pre ++ [x] <+: num 0 (Lx.toks s.data.toList).1 → ∀ m, YieldAt Fence.wide m Tryz.prog l (encT x) W1 fun e W' =>
      (e = .returned (.bool true) ∧ J (pre ++ [x]) W' ∧ KeepT 102 NG W1 W') ∨ (e = .returned (.bool false) ∧ Jx (pre ++ [x]) W'))
    (w : World) (hB : B ≤ w.heap.size) (hG : GS w) (hN : NG ≤ w.heap.size) (hs : s.size ≤ 140737488351232) (h0 : J [] w) :
    CallsIn Fence.wide d Tryz.prog 38 #[.string s, .func (.yield l) #[] #[]] w fun e W' => (∃ v, e = .returned v) ∧
      (J (num 0 (Lx.toks s.data.toList).1) W' ∨ ∃ pre, pre <+: num 0 (Lx.toks s.data.toList).1 ∧ pre ≠ [] ∧ Jx pre W') := by
  refine callsIn_of_wp Tryz.func38 rfl trivial ?_ rfl
  simp only [Tryz.ntmps38, List.size_toArray, List.length_cons, List.length_nil, Nat.reduceAdd, Nat.reduceSub, Array.replicate_succ, Array.replicate_zero, List.push_toArray, List.append_toArray, List.nil_append, List.cons_append]
  have hdw : ∀ k : Nat, (Fence.wide.depth.isSome = true → 1 ≤ k) := fun k h => by cases h
  by_cases hl : 65536 < s.size
  · have hl' : (65536 : Int) < (s.size : Int) := by omega
    have ht : (Lx.toks s.data.toList).1 = [] := by unfold Lx.toks; rw [if_pos (by rw [len_size]; exact hl)]
    have HT := Lib.hid ht
    have HJ := Lib.hid hJ
    clear ht
    gi_wp2_with (refine ⟨trivial, hdw _, ?_⟩; gi_at_call 56; refine (callsIn_wide.2 (lexWrong _ _ _)).mono ?_; rintro e w' ⟨rfl, rfl⟩)
    go_ret
    refine ⟨⟨_, rfl⟩, .inl ?_⟩
    rw [HT.out]
    exact HJ.out _ _ _ none h0 (World.grownBy_alloc _ _ _) (fun r e => nomatch e)
  · have hl' : ¬ (65536 : Int) < (s.size : Int) := by omega
    have ht : Lx.toks s.data.toList = Lx.go (s.size + 1) 0 0 (s.data.toList.drop 0) := by unfold Lx.toks; rw [if_neg (by rw [len_size]; exact hl), len_size]; rfl
    have HT := Lib.hid ht
    clear ht
    gi_wp2
    have hC1 : Cu (w.alloc (.cells #[.string s, .int .i64 0] 102)) w.heap.size s 0 := heap_alloc_new w _
    have hJ1 := hJ _ _ _ none h0 (World.grownBy_alloc w (.cells #[.string s, .int .i64 0] 102) none) (fun r e => nomatch e)
    have hG1 := hG.alloc (.cells #[.string s, .int .i64 0] 102)
    obtain ⟨w1, hw1⟩ : ∃ w1, w.alloc (.cells #[.string s, .int .i64 0] 102) = w1 := ⟨_, rfl⟩
    rw [hw1] at hC1 hJ1 hG1 ⊢
    clear hw1
    have HC1 := Lib.hid hC1
    have HJ := Lib.hid hJ
    clear hC1 h0 hJ
    gi_loopw [6] (fun p wr => ∃ (m i f : Nat) (pre : List (Nat × Lx.Tok)), p = .int .i64 (i : Int) ∧ i ≤ 4096 ∧ m ≤ s.size ∧ Cu wr w.heap.size s m ∧ GS wr ∧ s.size - m < f ∧ J pre wr ∧ pre.length = i ∧
      num 0 (Lx.toks s.data.toList).1 = pre ++ num i (Lx.go f m i (s.data.toList.drop m)).1) (fun p wr => s.size - placeOf w.heap.size wr)
    case atStart => exact ⟨0, 0, s.size + 1, [], rfl, by omega, by omega, HC1.out, hG1, by omega, hJ1, rfl, by rw [HT.out]; rfl⟩
    case round =>
      obtain ⟨m, i, f, pre, rfl, hi, hm, hC, hGr, hf, hJr, hpl, he⟩ := hrel
      have hbl : w.heap.size < wr.heap.size := hC.lt
      obtain ⟨f, rfl⟩ : ∃ f', f = f' + 1 := ⟨f - 1, by omega⟩
      obtain ⟨hq1, hq2, hq3⟩ := skip_at s m hm
      have HE := Lib.hid he
      have HPL := Lib.hid hpl
      have HM := Lib.hid (placeOf_eq hC)
      have hsk := lexSkip s w.heap.size m wr hC hm hs
      have i1 : (i : Int) ≤ 4096 := by omega
      have q1 : ((skipAt s m : Nat) : Int) ≤ (s.size : Int) := by omega
      have hsk' : Calls Tryz.prog 57 #[.pointer (some ⟨w.heap.size, 0, none⟩)] wr fun e w' => e = .returned (.tuple #[]) ∧ Cu w' w.heap.size s (skipAt s m) ∧ w.heap.size < w'.heap.size ∧ GS w' ∧ J pre w' :=
        hsk.mono fun e w' h => ⟨h.1, h.2.1, h.2.1.lt, hGr.grown h.2.2 hN, HJ.out _ _ _ _ hJr h.2.2 (fun r e => by injection e with e; subst e; exact ⟨hB, _, hC, ⟨_, _, rfl⟩⟩)⟩
      clear hsk he hpl hC HC1
      by_cases hq : skipAt s m = s.size
      · have hR : num 0 (Lx.toks s.data.toList).1 = pre := HE.out.trans (by rw [go_end hm hq]; simp [num])
        have HR := Lib.hid hR
        clear hR
        have HQ := Lib.hid hq
        have hqi : ((skipAt s m : Nat) : Int) = (s.size : Int) := by omega
        clear hq
        gi_wp2_with (refine ⟨trivial, hdw _, ?_⟩; gi_at_call 57; refine (callsIn_wide.2 hsk').mono ?_; clear hsk'; rintro e w5 ⟨rfl, hC5, hz5, hG5, hJ5⟩; have c0 := hC5.c0; have c1 := hC5.c1; have cf1 := hC5.f1)
        go_ret
        refine ⟨⟨_, rfl⟩, .inl ?_⟩
        rw [HR.out]
        exact hJ5
      · have hq' : skipAt s m < s.size := by omega
        have hqne : ¬ ((skipAt s m : Nat) : Int) = (s.size : Int) := by omega
        have hqlt : ((skipAt s m : Nat) : Int) < (s.size : Int) := by omega
        have hq0 : (0 : Int) ≤ ((skipAt s m : Nat) : Int) := by omega
        have HQ := Lib.hid hq
        clear hq
        have hqb : (((skipAt s m : Nat) : Int) == (s.size : Int)) = false := by simp; omega
        cases hb : Lx.begins (s[skipAt s m]'hq') with
        | false =>
          have hR : num 0 (Lx.toks s.data.toList).1 = pre := HE.out.trans (by rw [go_byte hm hq' hb]; simp [num])
          have HR := Lib.hid hR
          clear hR
          gi_wp2_with (first | (refine ⟨trivial, hdw _, ?_⟩; gi_at_call 57; refine (callsIn_wide.2 hsk').mono ?_; clear hsk'; rintro e w5 ⟨rfl, hC5, hz5, hG5, hJ5⟩; have c0 := hC5.c0; have c1 := hC5.c1; have cf1 := hC5.f1) | (refine ⟨trivial, hdw _, ?_⟩; gi_at_call 58; refine (callsIn_wide.2 (lexBegins _ _)).mono ?_; rintro e w' ⟨rfl, rfl⟩) | (refine ⟨trivial, hdw _, ?_⟩; gi_at_call 56; refine (callsIn_wide.2 (lexWrong _ _ _)).mono ?_; rintro e w' ⟨rfl, rfl⟩))
          go_ret
          refine ⟨⟨_, rfl⟩, .inl ?_⟩
          rw [HR.out]
          exact HJ.out _ _ _ none hJ5 (World.grownBy_alloc _ _ _) (fun r e => nomatch e)
        | true =>
          by_cases h4 : i = 4096
          · have hR : num 0 (Lx.toks s.data.toList).1 = pre := HE.out.trans (by rw [go_many hm hq' hb h4]; simp [num])
            have HR := Lib.hid hR
            have h4b : ((i : Int) == 4096) = true := by simp; omega
            clear hR h4
            gi_wp2_with (first | (refine ⟨trivial, hdw _, ?_⟩; gi_at_call 57; refine (callsIn_wide.2 hsk').mono ?_; clear hsk'; rintro e w5 ⟨rfl, hC5, hz5, hG5, hJ5⟩; have c0 := hC5.c0; have c1 := hC5.c1; have cf1 := hC5.f1) | (refine ⟨trivial, hdw _, ?_⟩; gi_at_call 58; refine (callsIn_wide.2 (lexBegins _ _)).mono ?_; rintro e w' ⟨rfl, rfl⟩) | (refine ⟨trivial, hdw _, ?_⟩; gi_at_call 56; refine (callsIn_wide.2 (lexWrong _ _ _)).mono ?_; rintro e w' ⟨rfl, rfl⟩))
            go_ret
            refine ⟨⟨_, rfl⟩, .inl ?_⟩
            rw [HR.out]
            exact HJ.out _ _ _ none hJ5 (World.grownBy_alloc _ _ _) (fun r e => nomatch e)
          · have h4b : ((i : Int) == 4096) = false := by simp; omega
            have i2 : (i : Int) < 4096 := by omega
            have i3 : i < 4096 := by omega
            have H4 := Lib.hid h4
            clear h4
            have HB := Lib.hid hb
            cases hc : Lx.cut (skipAt s m) (s.data.toList.drop (skipAt s m)) with
            | bad y x =>
              have hR : num 0 (Lx.toks s.data.toList).1 = pre := HE.out.trans (by rw [go_bad hm hq' hb H4.out hc]; simp [num])
              have HR := Lib.hid hR
              have HX := Lib.hid hc
              clear hR hc
              gi_wp2_with (first | (refine ⟨trivial, hdw _, ?_⟩; gi_at_call 57; refine (callsIn_wide.2 hsk').mono ?_; clear hsk'; rintro e w5 ⟨rfl, hC5, hz5, hG5, hJ5⟩; have c0 := hC5.c0; have c1 := hC5.c1; have cf1 := hC5.f1) | (refine ⟨trivial, hdw _, ?_⟩; gi_at_call 58; refine (callsIn_wide.2 (lexBegins _ _)).mono ?_; rintro e w' ⟨rfl, rfl⟩) | (refine ⟨trivial, hdw _, ?_⟩; gi_at_call 59; refine (callsIn_wide.2 (lexToken s w.heap.size (skipAt s m) _ hC5 hq' hs hG5 hN HB.out)).mono ?_; intro e w6 hres; obtain ⟨g, j, rfl, hg6, hR6, hgl, hC6⟩ := ResIs.bad' HX.out hres; clear hres))
              go_ret
              refine ⟨⟨_, rfl⟩, .inl ?_⟩
              rw [HR.out]
              exact HJ.out _ _ _ none (HJ.out _ _ _ _ hJ5 hg6 (fun r e => by injection e with e; subst e; exact ⟨hB, _, hC5, ⟨_, _, rfl⟩⟩)) (World.grownBy_alloc _ _ _) (fun r e => nomatch e)
            | ok t n =>
              have HX := Lib.hid hc
              have hR := HE.out
              rw [go_ok hm hq' hb H4.out hc] at hR
              have HR := Lib.hid hR
              obtain ⟨hn0, hfit⟩ := cut_fits hq' hc
              clear hR hc
              gi_wp2_with (first | (refine ⟨trivial, hdw _, ?_⟩; gi_at_call 57; refine (callsIn_wide.2 hsk').mono ?_; clear hsk'; rintro e w5 ⟨rfl, hC5, hz5, hG5, hJ5⟩; have c0 := hC5.c0; have c1 := hC5.c1; have cf1 := hC5.f1) | (refine ⟨trivial, hdw _, ?_⟩; gi_at_call 58; refine (callsIn_wide.2 (lexBegins _ _)).mono ?_; rintro e w' ⟨rfl, rfl⟩) | (refine ⟨trivial, hdw _, ?_⟩; gi_at_call 59; refine (callsIn_wide.2 (lexToken s w.heap.size (skipAt s m) _ hC5 hq' hs hG5 hN HB.out)).mono ?_; intro e w6 hres; obtain ⟨rfl, hg6, hC6⟩ := ResIs.ok' HX.out hres; clear hres; have hJ6 := HJ.out _ _ _ none (HJ.out _ _ _ _ hJ5 hg6 (fun r e => by injection e with e; subst e; exact ⟨hB, _, hC5, ⟨_, _, rfl⟩⟩)) (World.grownBy_alloc w6 (.cells #[.int .i64 t.pos, .int .i64 t.kind, .string ⟨t.s.toArray⟩, .int .i64 t.n] 26) none) (fun r e => nomatch e); obtain ⟨fn, tm, asg, bd, hy, hRd⟩ := hY pre (i, t) _ hJ6 (by rw [HR.out]; exact ⟨_, by simp [num]; rfl⟩) (d - 1); dsimp only [encT] at hy))
              refine ⟨hdw _, hRd.mono ?_⟩
              rintro e W3 (⟨rfl, hJ3, hk3⟩ | ⟨rfl, hJx3⟩)
              · have hC3 : Cu W3 w.heap.size s (skipAt s m + n) := hk3.own _ _ (hC6.alloc _) ⟨_, _, rfl⟩
                have hG3 : GS W3 := ((hG5.grown hg6 hN).alloc _).keepT hk3
                gi_wp2
                go_roundw
                case rel => exact ⟨skipAt s m + n, i + 1, f, pre ++ [(i, t)], by simp, by omega, hfit, hC3, hG3, by omega, hJ3, by simp [HPL.out], by rw [HR.out]; simp [num]⟩
                case measure => rw [placeOf_eq hC3, HM.out]; omega
              · gi_wp2
                go_ret
                exact ⟨⟨_, rfl⟩, .inr ⟨pre ++ [(i, t)], by rw [HR.out]; exact ⟨_, by simp [num]; rfl⟩, by simp, hJx3⟩⟩

set_option maxHeartbeats 1000000 in
/-- All's function. -/
theorem lexAllFn (d : Nat) (s : ByteArray) (l B Bn : Nat) (J Jx : List (Nat × Lx.Tok) → World → Prop) (hJ : AbI 102 B J) (hJx : AbI 102 B Jx)
    (hY : ∀ pre x W1, J pre W1 → pre ++ [x] <+: num 0 (Lx.toks s.data.toList).1 → ∀ m, YieldAt Fence.wide m Tryz.prog l (encT x) W1 fun e W' =>
      (e = .returned (.bool true) ∧ J (pre ++ [x]) W' ∧ KeepT 102 NG W1 W') ∨ (e = .returned (.bool false) ∧ Jx (pre ++ [x]) W'))
    (w : World) (hB : B ≤ w.heap.size) (hG : GS w) (hN : NG ≤ w.heap.size) (hs : s.size ≤ 140737488351232) (hb : w.cell? ⟨Bn, 0, none⟩ = some (.string s)) (h0 : J [] w) :
    CallsIn Fence.wide d Tryz.prog 53 #[.func (.yield l) #[] #[], .pointer (some ⟨Bn, 0, none⟩)] w fun e W' => (∃ v, e = .returned v) ∧
      (J (num 0 (Lx.toks s.data.toList).1) W' ∨ ∃ pre, pre <+: num 0 (Lx.toks s.data.toList).1 ∧ pre ≠ [] ∧ Jx pre W') := by
  refine callsIn_of_wp Tryz.func53 rfl trivial ?_ rfl
  simp only [Tryz.ntmps53, List.size_toArray, List.length_cons, List.length_nil, Nat.reduceAdd, Nat.reduceSub, Array.replicate_succ, Array.replicate_zero, List.push_toArray, List.append_toArray, List.nil_append, List.cons_append]
  have hdw : ∀ k : Nat, (Fence.wide.depth.isSome = true → 1 ≤ k) := fun k h => by cases h
  have hcut := lexCutY (d - 1) s l B J Jx hJ hJx hY w hB hG hN hs h0
  gi_wp2_with (refine ⟨trivial, hdw _, ?_⟩; gi_at_call 38; refine hcut.mono ?_; clear hcut; rintro e w5 ⟨⟨v, rfl⟩, hor⟩)
  go_end0
  exact ⟨⟨_, rfl⟩, hor⟩

/-- .. as the range's contract. -/
theorem lexAll_seq (s : ByteArray) (Bn d : Nat) (w : World) (hG : GS w) (hN : NG ≤ w.heap.size) (hs : s.size ≤ 140737488351232) (hb : w.cell? ⟨Bn, 0, none⟩ = some (.string s)) :
    SeqT 102 NG Fence.wide d Tryz.prog 53 #[.pointer (some ⟨Bn, 0, none⟩)] encT (fun xs => xs = num 0 (Lx.toks s.data.toList).1) (fun pre => pre <+: num 0 (Lx.toks s.data.toList).1 ∧ pre ≠ [])
      (fun pre x => pre ++ [x] <+: num 0 (Lx.toks s.data.toList).1) w := by
  intro l J Jx W hW hJ hJx hY h0
  have hbl : Bn < w.heap.size := World.block_lt_of_cell? w ⟨Bn, 0, none⟩ hb
  have hb' : W.cell? ⟨Bn, 0, none⟩ = some (.string s) := (World.cell?_of_block (hW.block _ hbl)).trans hb
  refine (lexAllFn d s l W.heap.size Bn J Jx hJ hJx (fun pre x W1 h1 h2 m => yieldAt_any rfl m (hY pre x W1 h1 h2)) W (Nat.le_refl _) (hG.below hW) (by have := hW.size; omega) hs hb' h0).mono ?_
  rintro e W' ⟨hv, h | ⟨pre, hp, hne, hx⟩⟩
  · exact ⟨hv, .inl ⟨_, rfl, h⟩⟩
  · exact ⟨hv, .inr ⟨pre, ⟨hp, hne⟩, hx⟩⟩

end Go.Proofs.YtbhdkkkaeabkhaaGreatDoor

namespace Go.Proofs.YtbhdkkkaeabkhaaGreatDoor
open Go.RowKit Go.Shelf
set_option linter.unusedSimpArgs false
set_option linter.unusedVariables false
attribute [local go_sem] Oper.semAt_some

theorem lexAll (s : ByteArray) (w : World) : Calls Tryz.prog 27 #[.string s] w fun e w' =>
    e = .returned (.func (.func 53) #[] #[.pointer (some ⟨w.heap.size, 0, none⟩)]) ∧ w' = w.alloc (.cells #[.string s] 9) := by
  go_enter Tryz.func27, Tryz.ntmps27
  go_wp2
  go_ret
  exact ⟨rfl, rfl⟩

/-- A token's cells. -/
def cellsT (t : Lx.Tok) : List Value := [.int .i64 t.pos, .int .i64 t.kind, .string ⟨t.s.toArray⟩, .int .i64 t.n]
def OwnT (w : World) (base : Nat) (v : Value) (l : List Lx.Tok) : Prop := w.ownsRow base 26 4 v l.length (l.flatMap cellsT)
theorem infoTok : (Tryz.prog.info? 26).map (fun i => (i.zero, i.size, i.bytes)) = some (some (.agg #[.int .i64 0, .int .i64 0, .string ⟨#[]⟩, .int .i64 0]), 4, 40) := by kernel_rfl

/-- A row of tokens handed out: its length is its room. -/
def RowT (w : World) (base : Nat) (v : Value) (l : List Lx.Tok) : Prop :=
  (l = [] ∧ v = .slice none 0 0) ∨ ∃ g cur, v = .slice (some ⟨g, 0, none⟩) l.length l.length ∧ base ≤ g ∧ w.heap[g]? = some (.cells cur 26 (0, 0)) ∧ l.length * 4 ≤ cur.size ∧ cur.toList.take (l.length * 4) = l.flatMap cellsT

/-- What Tokens answers. -/
def TokIs (w : World) (r : List Lx.Tok × Option (Nat × Nat)) (e : Ending) (w' : World) : Prop :=
  w.grownBy w' none ∧
  match r.2 with
  | none => ∃ v, e = .returned (.tuple #[v, .nilIface]) ∧ RowT w' w.heap.size v r.1
  | some (y, x) => ∃ g, e = .returned (.tuple #[.slice none 0 0, .iface 74 (.pointer (some ⟨g, 0, none⟩))]) ∧ IsRef w' g x y ∧ w.heap.size ≤ g

theorem num_snd : ∀ (i : Nat) (l : List Lx.Tok), (num i l).map Prod.snd = l
  | _, [] => rfl
  | i, t :: l => by simp [num, num_snd (i + 1) l]
theorem num_length (i : Nat) (l : List Lx.Tok) : (num i l).length = l.length := by rw [← List.length_map (f := Prod.snd), num_snd]
theorem go_length : ∀ (f p i : Nat) (l : Lx.Bytes), (Lx.go f p i l).1.length ≤ f
  | 0, _, _, _ => by simp [Lx.go]
  | f + 1, p, i, l => by
    simp only [Lx.go]
    split
    · simp
    · split
      · simp
      · split
        · simp
        · split
          · simp
          · have := go_length f
            simp only [List.length_cons]
            exact Nat.succ_le_succ (this _ _ _)
theorem toks_length (l : Lx.Bytes) : (Lx.toks l).1.length ≤ 65537 := by
  unfold Lx.toks
  split
  · simp
  · have := go_length (l.length + 1) 0 0 l
    omega
theorem cells_new (w : World) (t : TypeId) (cs : List Value) (j : Nat) (u : Value) (h : cs[j]? = some u) : (w.alloc (.cells cs.toArray t)).cell? ((⟨w.heap.size, 0, none⟩ : Addr).add j) = some u := by
  have h2 := heap_alloc_new w (.cells cs.toArray t)
  have e : (⟨w.heap.size, 0, none⟩ : Addr).add j = ⟨w.heap.size, j, none⟩ := by
    by_cases h0 : j = 0
    · subst h0; simp [Addr.add]
    · simp [Addr.add, h0]
  rw [e, cell_of h2 j]
  simpa using h
theorem row_kind {w : World} {B : Nat} {e : TypeId} {size : Nat} {v : Value} {n : Nat} {xs : List Value} (h : w.ownsRow B e size v n xs) (g : Nat) (hv : v.ownBlock = some g) : B ≤ g ∧ ∃ c, w.heap[g]? = some (.cells c e (0, 0)) := by
  rcases h.2 with ⟨rfl, _⟩ | ⟨g', cap, cur, rfl, hb, hg, _⟩
  · simp [Value.ownBlock] at hv
  · obtain rfl : g' = g := by simpa [Value.ownBlock] using hv
    exact ⟨hb, cur, hg⟩
/-- What is cells of another type lies through a turn. -/
theorem turn_ne {T t k : Nat} {W W' : World} {row : Option Nat} {cs : Array Value} {fr : Nat × Nat} {B : Nat} (hk : W.heap[k]? = some (.cells cs t fr)) (ht : t ≠ T)
    (hr : ∀ r, row = some r → B ≤ r ∧ ∃ o : Obj, W.heap[r]? = some o ∧ (o.isCells = false ∨ OfT T o)) : some k ≠ row := by
  intro e
  obtain ⟨_, o, ho, h⟩ := hr k e.symm
  rw [hk] at ho
  injection ho with ho
  subst ho
  rcases h with h | ⟨_, _, h⟩
  · cases h
  · injection h with h1 h2 h3; exact ht h2
theorem OwnT.turn {W W' : World} {row : Option Nat} {v : Value} {l : List Lx.Tok} {base T B : Nat} (h : OwnT W base v l) (ht : 26 ≠ T) (hg : W.grownBy W' row)
    (hr : ∀ r, row = some r → B ≤ r ∧ ∃ o : Obj, W.heap[r]? = some o ∧ (o.isCells = false ∨ OfT T o)) : OwnT W' base v l := by
  refine World.ownsRow.kept h hg ?_
  cases hv : v.ownBlock with
  | none => exact .inl rfl
  | some g =>
    right
    obtain ⟨_, c, hc⟩ := row_kind h g hv
    exact turn_ne (W' := W') hc ht hr
theorem below_grown {w w' : World} (h : Below w.heap.size w w') : w.grownBy w' none := ⟨h.os, h.tape, h.output, h.size, fun k hk _ => h.block k hk⟩
theorem grown_below {w w' : World} (h : w.grownBy w' none) : Below w.heap.size w w' := ⟨h.os, h.tape, h.output, h.size, fun k hk => h.block k hk (fun e => nomatch e)⟩
theorem Below.turn {w W W' : World} {row : Option Nat} (h : Below w.heap.size w W) (hg : W.grownBy W' row) (hr : ∀ r, row = some r → w.heap.size ≤ r) : Below w.heap.size w W' :=
  ⟨hg.os.trans h.os, hg.tape.trans h.tape, hg.output.trans h.output, Nat.le_trans h.size hg.size, fun k hk => (hg.block k (Nat.lt_of_lt_of_le hk h.size) (fun e => by have := hr k e.symm; omega)).trans (h.block k hk)⟩

set_option maxRecDepth 100000 in
set_option maxHeartbeats 8000000 in
theorem lexTokens (s : ByteArray) (w : World) (hG : GS w) (hN : NG ≤ w.heap.size) (hs : s.size ≤ 140737488351232) :
    Calls Tryz.prog 16 #[.string s] w (TokIs w (Lx.toks s.data.toList)) := by
  refine (callsIn_wide (n := 3)).1 ?_
  refine callsIn_of_wp_marks Tryz.func16 rfl trivial ?_ rfl
  simp only [Tryz.ntmps16, List.size_toArray, List.length_cons, List.length_nil, Nat.reduceAdd, Nat.reduceSub, Array.replicate_succ, Array.replicate_zero, List.push_toArray, List.append_toArray, List.nil_append, List.cons_append]
  have hdw : ∀ k : Nat, (Fence.wide.depth.isSome = true → 1 ≤ k) := fun k h => by cases h
  have hcut := lexCutAll s w hG hN hs
  cases hr : (Lx.toks s.data.toList).2 with
  | some yx =>
    obtain ⟨y, x⟩ := yx
    have HR := Lib.hid hr
    clear hr
    gi_wp2_with (refine ⟨trivial, ?_⟩; gi_at_call 38; refine (callsIn_wide.2 hcut).mono ?_; clear hcut; intro e w5 hend; rw [HR.out] at hend; obtain ⟨hg5, g, rfl, hR5, hgl⟩ := hend)
    refine ⟨_, results_tmp2 rfl _ _ _, hg5, ?_⟩
    rw [HR.out]
    exact ⟨g, rfl, hR5, hgl⟩
  | none =>
    have HR := Lib.hid hr
    clear hr
    gi_wp2_with (first | (refine ⟨trivial, ?_⟩; gi_at_call 38; refine (callsIn_wide.2 hcut).mono ?_; clear hcut; intro e w5 hend; rw [HR.out] at hend; obtain ⟨hg5, rfl⟩ := hend) | (refine ⟨trivial, ?_⟩; gi_at_call 27; refine (callsIn_wide.2 (lexAll _ _)).mono ?_; rintro e w' ⟨rfl, rfl⟩))
    have hl6 : Boxed (w5.alloc (.cells #[.slice none 0 0] 28)) w5.heap.size 28 (.slice none 0 0) := Boxed.new _ _ _
    have hl7 := hl6.alloc (.cells #[.string s] 9)
    have hb7 : ((w5.alloc (.cells #[.slice none 0 0] 28)).alloc (.cells #[.string s] 9)).cell? ⟨w5.heap.size + 1, 0, none⟩ = some (.string s) := by
      have := Boxed.cell (Boxed.new (w5.alloc (.cells #[.slice none 0 0] 28)) 9 (.string s)); rwa [World.size_alloc] at this
    have hg7 : Below w.heap.size w ((w5.alloc (.cells #[.slice none 0 0] 28)).alloc (.cells #[.string s] 9)) := grown_below ((hg5.trans (World.grownBy_alloc _ _ _)).trans (World.grownBy_alloc _ _ _))
    have hs7 : ((w5.alloc (.cells #[.slice none 0 0] 28)).alloc (.cells #[.string s] 9)).heap.size = w5.heap.size + 2 := by simp
    have hs5 := hg5.size
    obtain ⟨L, hL⟩ : ∃ L, w5.heap.size = L := ⟨_, rfl⟩
    rw [hL] at hl7 hb7 hs7 hs5 ⊢
    obtain ⟨w7, hw7⟩ : ∃ w7, (w5.alloc (.cells #[.slice none 0 0] 28)).alloc (.cells #[.string s] 9) = w7 := ⟨_, rfl⟩
    rw [hw7] at hl7 hb7 hg7 hs7 ⊢
    clear hw7 hl6
    have hmx : (1 : Nat) ≤ 3 := by decide
    refine range_T (T := 102) (n₀ := NG) rfl hmx (gf := 53) (lb := #[.pointer (some ⟨L + 1, 0, none⟩)]) rfl trivial (enters_of Tryz.func53 (by kernel_rfl) rfl)
      (lexAll_seq s (L + 1) (3 - 1) w7 (hG.below hg7) (by have := hg7.size; omega) hs hb7) (Below.refl _ _) (by have := hg7.size; omega) (fun _ => rfl)
      (fun pre W => (∃ v, Boxed W L 28 v ∧ OwnT W w.heap.size v (pre.map Prod.snd)) ∧ Below w.heap.size w W) (fun _ _ _ => False)
      (fun x a₁ W => ∃ bx, W.heap[bx]? = some (.cells (cellsT x.2).toArray 26 (0, 0)) ∧ a₁ = { tmps := #[.string s, undef, .slice none 0 0, .nilIface, .pointer none, .pointer (some ⟨L, 0, none⟩), undef, .pointer (some ⟨bx, 0, none⟩), .string s, .pointer none, .pointer none, .bool false, undef, undef, .string s,
          .func (.func 53) #[] #[.pointer (some ⟨L + 1, 0, none⟩)], .int .i64 x.1, .agg #[.int .i64 x.2.pos, .int .i64 x.2.kind, .string ⟨x.2.s.toArray⟩, .int .i64 x.2.n], undef, undef, undef, undef, undef, undef, undef, undef, undef, undef], defers := [] })
      ?hI (fun _ _ _ _ _ hs _ _ => hs) ?hAx ⟨⟨_, hl7, World.ownsRow_nil _ _ _ _⟩, hg7⟩ ?assign ?body ?done ?stop
    case hI =>
      rintro pre W W' row ⟨⟨v, hv, ho⟩, hb⟩ hgr hr
      exact ⟨⟨v, hv.kept hgr (turn_ne (W' := W') hv (by decide) hr), ho.turn (by decide) hgr hr⟩, Below.turn hb hgr (fun r e => by have := (hr r e).1; have := hg7.size; omega)⟩
    case hAx =>
      rintro a₁ x W W' row ⟨bx, hbx, he⟩ hgr hr
      exact ⟨bx, (hgr.block _ (lt_of_block hbx) (turn_ne (W' := W') hbx (by decide) hr)).trans hbx, he⟩
    case assign =>
      intro l pre x W hl hi hrn
      dsimp only [encT]
      gi_wp2
      exact ⟨World.grownBy_alloc _ _ _, W.heap.size, heap_alloc_new _ _, rfl⟩
    case body =>
      rintro l pre x a₁ W hl ⟨⟨v, hv, ho⟩, hb⟩ ⟨bx, hbx, rfl⟩ hrn
      have hc := hv.cell
      have hf := hv.frozen
      obtain ⟨b0, b1, b2, b3⟩ := four_cells hbx
      have hWs := hb.size
      obtain ⟨i0, hi, hz0, hz1, hz2⟩ := info_parts infoTok
      have hlen : pre.length + 1 ≤ 65537 := by
        have h1 := hrn.length_le
        rw [num_length] at h1
        have := toks_length s.data.toList
        simp at h1
        omega
      obtain ⟨k, hk⟩ : ∃ k, (pre.map Prod.snd).length = k := ⟨_, rfl⟩
      have hk1 : k + 1 ≤ 65537 := by rw [← hk]; simpa using hlen
      have ho' : W.ownsRow w.heap.size 26 4 v k ((pre.map Prod.snd).flatMap cellsT) := by rw [← hk]; exact ho
      gi_wp2_with (gi_at_builtin; refine wpListIn_append_own _ rfl _ _ 28 rfl w.heap.size 26 i0 _ 4 40 Tryz.underlying28 hi hz0 hz1 hz2 rfl (by decide) _ _ _ rfl (ho'.alloc _) ⟨W.heap.size, 0, none⟩ 1 1 (cellsT x.2) rfl rfl (cells_new _ _ _) (by simp [cellsT, Value.oneCell']) (by unfold maxLen; omega) (by omega) (by simp; omega) ?_; intro v' w1 hown' hgrow _; obtain ⟨g', cap', rfl⟩ := ownsRow_succ hown'; obtain ⟨hv1, hv2, hr2, hk2, hb2⟩ := hv.appended (by decide) ho' (by omega) (by omega) hown' hgrow; have hc1 := hv1.cell; have hf1 := hv1.frozen)
      have hrow := ho'.alloc (.cells (cellsT x.2).toArray 26)
      have hkeep : KeepT 102 NG W (w1.setCell ⟨L, 0, none⟩ (.slice (some ⟨g', 0, none⟩) (k + 1) cap')) := by
        refine ((KeepT.alloc _ _ W _).trans (KeepT.of_grownBy hgrow ?_)).trans (KeepT.of_grownBy (grown_set _ _ _ _) ?_)
        · intro r e
          obtain ⟨hb1, c, hc'⟩ := row_kind hrow r e
          refine ⟨by omega, ?_⟩
          rintro o hro ⟨cs, fr, rfl⟩
          have hro' := hc'.symm.trans hro
          injection hro' with h
          injection h with h1 h2 h3
          exact absurd h2 (by decide)
        · intro r e
          injection e with e
          subst e
          refine ⟨by omega, ?_⟩
          rintro o hro ⟨cs, fr, rfl⟩
          have hro' := (show w1.heap[L]? = _ from hv1).symm.trans hro
          injection hro' with h
          injection h with h1 h2 h3
          exact absurd h2 (by decide)
      refine ⟨hk2, hkeep, ⟨_, hv2, ?_⟩, hb.trans hb2⟩
      have hlk : ((pre ++ [x]).map Prod.snd).length = k + 1 := by simp [← hk]
      unfold OwnT
      rw [hlk, List.map_append, List.flatMap_append]
      simpa using hr2
    case done =>
      rintro D xs W hD rfl ⟨⟨v, hv, ho⟩, hb⟩ hK
      rw [num_snd] at ho
      have hc := hv.cell
      have hcl := toks_length s.data.toList
      obtain ⟨ts, hts⟩ : ∃ ts, (Lx.toks s.data.toList).1 = ts := ⟨_, rfl⟩
      rw [hts] at ho hcl
      have HTS := Lib.hid hts
      clear hts
      have hDL : D < W.heap.size := lt_of_block hK
      have hgr : w.grownBy (W.putObj D (.deferred none)) none := below_grown (Below.turn hb (grownBy_putObj' W D _) (fun r e => by injection e with e; have := hg7.size; omega))
      rcases ho.2 with ⟨rfl, hn⟩ | ⟨g, cap, cur, rfl, hbg, hgb, hcap, hcm, hcs, htk⟩
      · gi_wp2
        refine ⟨by simp, .inl ⟨_, _, rfl, run_takeDeferred hK, ?_⟩⟩
        refine ⟨_, results_tmp2 rfl _ _ _, hgr, ?_⟩
        rw [HR.out, HTS.out]
        exact ⟨_, rfl, .inl ⟨List.length_eq_zero_iff.1 hn, rfl⟩⟩
      · have n0 : (0 : Int) ≤ (ts.length : Int) := by omega
        have n1 : (ts.length : Int) ≤ (cap : Int) := by omega
        have n2 : (ts.length : Int) ≤ 65537 := by omega
        gi_wp2
        refine ⟨by simp, .inl ⟨_, _, rfl, run_takeDeferred hK, ?_⟩⟩
        refine ⟨_, results_tmp2 rfl _ _ _, hgr, ?_⟩
        rw [HR.out, HTS.out]
        refine ⟨_, rfl, .inr ⟨g, cur, rfl, hbg, ?_, by rw [hcs]; exact Nat.mul_le_mul_right 4 hcap, htk⟩⟩
        exact (World.putObj_heap_other (fun e => by rw [e] at hgb; rw [hgb] at hK; cases hK)).trans hgb
    case stop =>
      rintro D c pre W _ _ h _
      exact h.elim

end Go.Proofs.YtbhdkkkaeabkhaaGreatDoor

namespace Go.Proofs.YtbhdkkkaeabkhaaGreatDoor
open Go.RowKit Go.Shelf
set_option linter.unusedSimpArgs false
set_option linter.unusedVariables false

theorem apiWhere (p : Int) (w : World) : Calls Tryz.prog 41 #[.agg #[.int .i64 p]] w fun e w' => e = .returned (.int .i64 p) ∧ w.grownBy w' none := by
  go_enter Tryz.func41, Tryz.ntmps41
  go_wp2
  go_ret
  exact ⟨rfl, World.grownBy_alloc _ _ _⟩

theorem ownNew (w : World) (base : Nat) (c : UInt8) (hb : base ≤ w.heap.size) : OwnB (w.alloc (.cells #[.int .u8 (c.toNat : Int)] 5)) base (.slice (some ⟨w.heap.size, 0, none⟩) 1 1) [c] :=
  ⟨rfl, .inr ⟨w.heap.size, 1, #[.int .u8 (c.toNat : Int)], rfl, hb, heap_alloc_new w _, Nat.le_refl _, by unfold maxLen; omega, rfl, rfl⟩⟩

set_option maxHeartbeats 4000000 in
set_option maxRecDepth 100000 in
theorem apiErrno (n : Int) (h0 : 0 ≤ n) (h1 : n ≤ 1000000) (w : World) : Calls Tryz.prog 65 #[.int .i64 n] w fun e w' => (∃ s, e = .returned (.string s) ∧ s.size ≤ 2000000) ∧ Below w.heap.size w w' := by
  go_enter Tryz.func65, Tryz.ntmps65
  by_cases e0 : n = 0
  · have b0 : (n == 0) = true := by simp [e0]
    clear e0
    go_wp2
    go_ret
    exact ⟨⟨_, rfl, by decide⟩, Below.refl _ _⟩
  · have b0 : (n == 0) = false := by simp [e0]
    by_cases e22 : n = 22
    · have b22 : (n == 22) = true := by simp [e22]
      clear e0 e22
      go_wp2
      go_ret
      exact ⟨⟨_, rfl, by decide⟩, Below.refl _ _⟩
    · have b22 : (n == 22) = false := by simp [e22]
      by_cases e23 : n = 23
      · have b23 : (n == 23) = true := by simp [e23]
        clear e0 e22 e23
        go_wp2
        go_ret
        exact ⟨⟨_, rfl, by decide⟩, Below.refl _ _⟩
      · have b23 : (n == 23) = false := by simp [e23]
        have hneg : ¬ n < 0 := by omega
        have hpos : 0 < n := by omega
        clear e22 e23
        go_wp2
        obtain ⟨i0, hi, hz0, hz1, hz2⟩ := info_parts infoU8
        have hB0 : OwnB w w.heap.size (.slice none 0 0) [] := OwnB.nil _ _
        go_loopg [3, 4] n.toNat (fun k x v wr => ∃ (y : Int) (l : List UInt8), k = y.toNat ∧ x = .int .i64 y ∧ 0 ≤ y ∧ y ≤ n ∧ (l.length : Int) + y ≤ n ∧ (0 < y ∨ l ≠ []) ∧ (l = [] → v = .slice none 0 0) ∧ OwnB wr w.heap.size v l ∧ Below w.heap.size w wr)
        case atStart => exact ⟨n, [], rfl, rfl, by omega, by omega, by simp, .inl (by omega), fun _ => rfl, hB0, Below.refl _ _⟩
        case round =>
          obtain ⟨y, l, hk, rfl, hy0, hyn, hly, hor, hnl, hB, hb⟩ := hrel
          have HK := Lib.hid hk
          clear hk hB0
          obtain ⟨A0, cap, rfl⟩ := hB.slice
          have hsz := hb.size
          by_cases hy : 0 < y
          · have hmod : y.tmod 10 = y % 10 := by rw [Int.tmod_eq_emod_of_nonneg hy0]
            have hdiv : y.tdiv 10 = y / 10 := by rw [Int.tdiv_eq_ediv_of_nonneg hy0]
            obtain ⟨c0, hc0⟩ : ∃ c0 : UInt8, 48 + y % 10 = (c0.toNat : Int) := ⟨UInt8.ofNat (48 + y % 10).toNat, by
              rw [UInt8.toNat_ofNat']
              have h1 : (48 + y % 10).toNat < 256 := by omega
              omega⟩
            have hnew := ownNew wr w.heap.size c0 hsz
            cases l with
            | nil =>
              have hh := hnl rfl
              injection hh with h1 h2 h3
              subst h1
              subst h3
              clear hnl
              go_wp2
              go_roundg (y / 10).toNat
              case measure => have := HK.out; omega
              case rel => exact ⟨y / 10, [c0], rfl, rfl, by omega, by omega, by simp; omega, .inr (by simp), (by simp), hnew, hb.alloc hsz _⟩
            | cons c l =>
              obtain ⟨g, cap', cur, hh, hbg, hgb, hrest⟩ : ∃ g cap' cur, Value.slice A0 (c :: l).length cap = .slice (some ⟨g, 0, none⟩) (c :: l).length cap' ∧ w.heap.size ≤ g ∧ wr.heap[g]? = some (.cells cur 5 (0, 0)) ∧ True := by
                rcases hB.2 with ⟨hh, h0⟩ | ⟨g, cap', cur, hh, hbg, hgb, _⟩
                · cases h0
                · exact ⟨g, cap', cur, hh, hbg, hgb, trivial⟩
              injection hh with h1 h2 h3
              subst h1
              subst h3
              obtain ⟨k, hk⟩ : ∃ k, (c :: l).length = k := ⟨_, rfl⟩
              have hkl : (k : Int) + y ≤ n := by rw [← hk]; exact hly
              have hcs := (OwnB.alloc hB (.cells #[.int .u8 (c0.toNat : Int)] 5)).cells (g := g) rfl
              have hbl : (bytesV (c :: l)).length = k := by rw [bytesV_length, hk]
              have HL := Lib.hid hk
              rw [hk]
              go_wp2_with (at_builtin; refine wpList_append_own _ rfl _ _ 66 rfl w.heap.size 5 i0 (.int .u8 0) 1 1 Tryz.underlying66 hi hz0 hz1 hz2 rfl (by decide) (.slice (some ⟨wr.heap.size, 0, none⟩) 1 1) 1 [.int .u8 (c0.toNat : Int)] rfl hnew ⟨g, 0, none⟩ k cap (bytesV (c :: l)) rfl (by rw [hbl]; simp) hcs (by simp [bytesV, Value.oneCell']) (by unfold maxLen; simp; omega) (by simp; omega) (by simp; omega) ?_; intro v' w1 hown' hgrow _)
              go_roundg (y / 10).toNat
              case measure => have := HK.out; omega
              case rel =>
                have hlk : (c0 :: c :: l).length = 1 + k := by rw [List.length_cons, HL.out, Nat.add_comm]
                refine ⟨y / 10, c0 :: c :: l, rfl, rfl, by omega, by omega, by rw [hlk]; omega, .inr (by simp), (by simp), ?_, ?_⟩
                · unfold OwnB
                  rw [hlk]
                  exact hown'
                · exact Below.turn (Below.turn hb (World.grownBy_alloc _ _ none) (fun r e => nomatch e)) hgrow (fun r e => by simp [Value.ownBlock] at e; omega)
          · have hy' : y = 0 := by omega
            have hl : l ≠ [] := by rcases hor with h | h; exact absurd h hy; exact h
            have hll : 0 < l.length := List.length_pos_iff.2 hl
            have hlb : ((l.length : Int) == 0) = false := by simp; omega
            subst hy'
            have hstr : (convert 66 9 (.slice A0 l.length cap)).run Tryz.prog wr = .ok (.string ⟨l.toArray⟩) wr := strByte hB
            clear hor hl hnl
            go_wp2
            go_ret
            exact ⟨⟨_, rfl, by rw [ByteArray.size_append]; show 8 + l.length ≤ _; omega⟩, hb⟩

end Go.Proofs.YtbhdkkkaeabkhaaGreatDoor
