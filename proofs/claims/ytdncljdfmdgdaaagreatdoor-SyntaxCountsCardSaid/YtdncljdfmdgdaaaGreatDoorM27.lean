/-
  The walk of syntax.Stmts.
-/
import Derived.Test.YtdncljdfmdgdaaaGreatDoorM26
namespace Go.Proofs.YtdncljdfmdgdaaaGreatDoor
open Go.RowKit Go.Shelf Go.WideMaps
set_option linter.unusedSimpArgs false
set_option linter.unusedVariables false

theorem Sx.okS_mem {d : Nat} {l : List Sx.St} (h : Sx.rightSs NM d l = true) : ∀ s ∈ l, Sx.okS s := fun s hs => ⟨d, Sx.rightSs_mem h s hs⟩
set_option maxRecDepth 100000 in
set_option maxHeartbeats 4000000 in
theorem synStmtsT (l : List Sx.St) (v : Value) (W : World) (hG : GS W) (hN : NG ≤ W.heap.size) (ht : StRow W v l) (hsz : Sx.sizeSs l ≤ 1000000) (hlen : (Sx.stmts SY l).length ≤ 900000000) :
    Calls Tryz.prog 24 #[v] W fun e W' => e = .returned (.tuple #[.string ⟨(Sx.said (Sx.rightSs NM 64 l) (Sx.stmts SY l)).1.toArray⟩, .int .i64 ((Sx.said (Sx.rightSs NM 64 l) (Sx.stmts SY l)).2 : Nat)]) ∧ Below W.heap.size W W' := by
  have hrt : ∀ X, Below W.heap.size W X → Calls Tryz.prog 65 #[v, .int .i64 64] X fun e W' => e = .returned (.bool (Sx.rightSs NM 64 l)) ∧ Below X.heap.size X W' := fun X hb => synRightSsAll 64 (by omega) l v X (hG.below hb) (Nat.le_trans hN hb.size) (ht.below hb) hsz
  have htyp := fun b w (hr : Sx.rightSs NM 64 l = true) (h : Wrote W b 0 [] w) => synStmtsAll (b := b) hG hN _ l (Nat.le_refl _) v [] w (Sx.okS_mem hr) ht hsz h (by simpa using hlen)
  obtain ⟨A, c, rfl, -, -⟩ := ht
  obtain ⟨L, hL⟩ : ∃ L, W.heap.size = L := ⟨_, rfl⟩
  obtain ⟨w3, hw3⟩ : ∃ w3, W.alloc (.cells #[.pointer none, .slice none 0 0, .int .i64 0] 104) = w3 := ⟨_, rfl⟩
  have htree : w3.heap[L]? = some (.cells #[.pointer none, .slice none 0 0, .int .i64 0] 104 (0, 0)) := by rw [← hw3, ← hL]; exact heap_alloc_new W _
  have hb3 : Below W.heap.size W w3 := by rw [← hw3]; exact grown_below (World.grownBy_alloc W _ none)
  have hs3 : L < w3.heap.size := lt_of_block htree
  have HFR := Lib.hid (show ∀ w4, Below w3.heap.size w3 w4 → Wrote W L 0 [] w4 ∧ L < w4.heap.size from fun w4 hb4 =>
    ⟨Wrote.fresh (by omega) ((hb4.block L hs3).trans htree) (hb3.trans (hb4.mono hb3.size)), Nat.lt_of_lt_of_le hs3 hb4.size⟩)
  have HRT := Lib.hid (hrt w3 hb3)
  have HTYP := Lib.hid htyp
  have HLN := Lib.hid hlen
  clear hrt htyp hlen hb3 htree hG hsz
  cases hr : Sx.rightSs NM 64 l with
  | false =>
    rw [hr] at HRT
    have HR := Lib.hid hr
    clear hr
    go_enter Tryz.func24, Tryz.ntmps24
    go_wp2_with (first
      | (go_at_call 65; refine HRT.out.mono ?_; rintro e w4 ⟨rfl, hb4⟩; obtain ⟨hW, hl4⟩ := HFR.out w4 hb4; have hW4 := Lib.hid hW; clear hb4 hW)
      | (go_at_call 60; refine (toldEnd hW4.out (by omega) false (fun _ => rfl)).mono ?_; rintro e w5 ⟨rfl, hb5⟩))
    refine bodyPost_ret (results_tmp2 rfl _ _ _) rfl ?_
    exact ⟨rfl, by first | exact hb5 | exact hL ▸ hb5⟩
  | true =>
    rw [hr] at HRT
    have HR := Lib.hid hr
    clear hr
    go_enter Tryz.func24, Tryz.ntmps24
    go_wp2_with (first
      | (go_at_call 65; refine HRT.out.mono ?_; rintro e w4 ⟨rfl, hb4⟩; obtain ⟨hW, hl4⟩ := HFR.out w4 hb4; have hW4 := Lib.hid hW; clear hb4 hW)
      | (go_at_call 66; refine (HTYP.out L w4 HR.out hW4.out).mono ?_; rintro e w5 ⟨rfl, h5, -⟩; have hl5 := h5.lt; have hW5 := Lib.hid h5; clear h5)
      | (go_at_call 60; refine (toldEnd hW5.out (by have := HLN.out; simp; omega) true (fun h => by cases h)).mono ?_; rintro e w6 ⟨rfl, hb6⟩))
    refine bodyPost_ret (results_tmp2 rfl _ _ _) rfl ?_
    exact ⟨rfl, by first | exact hb6 | exact hL ▸ hb6⟩

end Go.Proofs.YtdncljdfmdgdaaaGreatDoor
