/-
  The walk of short.
-/
import Derived.Test.YtbhdkkkaeabkhaaGreatDoorLwBare
namespace Go.Proofs.YtbhdkkkaeabkhaaGreatDoor
open Go.RowKit Go.Shelf
set_option linter.unusedSimpArgs false
set_option linter.unusedVariables false

def cutS (t : Lx.Tok) : Lx.Tok := { t with s := t.s.take 200 }
theorem TokAt.below {w w' : World} {b o : Nat} {t : Lx.Tok} (h : TokAt w b o t) (hb : Below w.heap.size w w') : TokAt w' b o t := by
  obtain ⟨h0, h1, h2, h3, h4⟩ := h
  have hl := World.block_lt_of_cell? w ⟨b, o, none⟩ h0
  have e : ∀ j, w'.cell? ⟨b, j, none⟩ = w.cell? ⟨b, j, none⟩ := fun j => World.cell?_of_block (hb.block b hl)
  exact ⟨(e _).trans h0, (e _).trans h1, (e _).trans h2, (e _).trans h3, h4⟩

set_option maxRecDepth 100000 in
set_option maxHeartbeats 8000000 in
theorem lawShort (ts : List Lx.Tok) (v : Value) (w : World) (hv : ToksArg w v ts) :
    Calls Tryz.prog 31 #[v, .int .i64 300] w fun e w' => ∃ u, e = .returned u ∧ ToksIn w' u ((ts.take 300).map cutS) ∧ Below w.heap.size w w' := by
  obtain ⟨a0, c0, rfl, hat⟩ := hv
  go_enter Tryz.func31, Tryz.ntmps31
  go_wp2
  go_loopg [5, 6] (ts.length) (fun n r v wr => ∃ (m : Nat), n = ts.length - m ∧ v = .int .i64 (m : Int) ∧ m ≤ ts.length ∧ m ≤ 300 ∧ OwnT wr w.heap.size r ((ts.take m).map cutS) ∧ Below w.heap.size w wr)
  case atStart => exact ⟨0, rfl, rfl, Nat.zero_le _, by omega, World.ownsRow_nil _ _ _ _, Below.refl _ _⟩
  case round =>
    obtain ⟨m, hn, rfl, hm, hm3, ho, hb⟩ := hrel
    have HN := Lib.hid hn
    have HO := Lib.hid ho
    clear hn ho
    have hmi : (m : Int) ≤ 300 := by omega
    have hi0 : (0 : Int) ≤ (m : Int) := by omega
    by_cases hlt : m < ts.length
    · have hi : (m : Int) < (ts.length : Int) := by omega
      by_cases h300 : m < 300
      · have hi3 : (m : Int) < 300 := by omega
        obtain ⟨b, off, rfl, hta⟩ := hat m hlt
        obtain ⟨t0, t1, t2, t3, t4, t5⟩ := hta.below hb
        have hgl := World.block_lt_of_cell? wr ⟨b, _, none⟩ t0
        simp only at hgl
        obtain ⟨t, ht⟩ : ∃ t, ts[m]'hlt = t := ⟨_, rfl⟩
        rw [ht] at t0 t1 t2 t3 t4 t5
        have HAT := Lib.hid hat
        clear hta hat
        go_upto_region 7 with (go_at_call 22; refine (lawFew ⟨t.s.toArray⟩ 200 (by omega) _).mono ?_; rintro e W1 ⟨B, rfl, hB, hBs, rfl⟩)
        have hBe : B = ⟨(t.s.take 200).toArray⟩ := by rw [← mk_back B, hB]
        subst hBe
        have hc : Value.string ⟨(t.s.take 200).toArray⟩ = .string ⟨(cutS t).s.toArray⟩ := rfl
        have hW := hb.alloc hb.size (.cells #[.int .i64 t.pos, .int .i64 t.kind, .string ⟨(t.s.take 200).toArray⟩, .int .i64 t.n] 26)
        have hbx := heap_alloc_new wr (.cells #[.int .i64 t.pos, .int .i64 t.kind, .string ⟨(t.s.take 200).toArray⟩, .int .i64 t.n] 26)
        have ho := HO.out.alloc (.cells #[.int .i64 t.pos, .int .i64 t.kind, .string ⟨(t.s.take 200).toArray⟩, .int .i64 t.n] 26)
        obtain ⟨W, hWe⟩ : ∃ W, wr.alloc (.cells #[.int .i64 t.pos, .int .i64 t.kind, .string ⟨(t.s.take 200).toArray⟩, .int .i64 t.n] 26) = W := ⟨_, rfl⟩
        rw [hWe] at hW hbx ho ⊢
        obtain ⟨b0, b1, b2, b3⟩ := four_cells hbx
        have hbl := lt_of_block hbx
        clear hWe t0 t1 t2 t3 t4 t5 hB hBs hc
        have hmm : ((ts.take m).map cutS).length = m := by rw [List.length_map, List.length_take]; omega
        have HTM := Lib.hid (show (ts.take (m + 1)).map cutS = (ts.take m).map cutS ++ [cutS t] by rw [List.take_succ_eq_append_getElem hlt, ht, List.map_append]; rfl)
        have ho' : W.ownsRow w.heap.size 26 4 u5 m (((ts.take m).map cutS).flatMap cellsT) := by have := ho; unfold OwnT at this; rw [hmm] at this; exact this
        obtain ⟨i0, hi', hz0, hz1, hz2⟩ := info_parts infoTok
        have hsz := hW.size
        clear ht
        go_wp2_with (at_builtin; refine wpList_append_own _ rfl _ _ 28 rfl w.heap.size 26 i0 _ 4 40 Tryz.underlying28 hi' hz0 hz1 hz2 rfl (by decide) _ _ _ rfl (ho'.alloc _) ⟨W.heap.size, 0, none⟩ 1 1 (cellsT (cutS t)) rfl rfl (cells_new _ _ _) (by simp [cellsT, Value.oneCell']) (by unfold maxLen; omega) (by omega) (by simp; omega) ?_; intro v' w1 hown' hgrow _)
        go_roundg (ts.length - (m + 1))
        case measure => have := HN.out; omega
        case rel =>
          refine ⟨m + 1, rfl, by simp, hlt, by omega, ?_, ?_⟩
          · unfold OwnT
            rw [HTM.out, List.length_append, hmm, List.flatMap_append]
            simpa using hown'
          · refine Below.turn (hW.alloc hsz _) hgrow (fun r e => ?_)
            exact (row_kind ho' r e).1
      · have hi3 : ¬ (m : Int) < 300 := by omega
        clear hat
        go_wp2
        go_ret
        have h := HO.out.toks
        rw [show m = 300 by omega, List.map_take] at h
        exact ⟨_, rfl, h, hb⟩
    · have hi : ¬ (m : Int) < (ts.length : Int) := by omega
      clear hat
      go_wp2
      go_ret
      have h := HO.out.toks
      rw [List.take_of_length_le (by omega)] at h
      rw [List.take_of_length_le (by rw [List.length_map]; omega)]
      exact ⟨_, rfl, h, hb⟩

end Go.Proofs.YtbhdkkkaeabkhaaGreatDoor
