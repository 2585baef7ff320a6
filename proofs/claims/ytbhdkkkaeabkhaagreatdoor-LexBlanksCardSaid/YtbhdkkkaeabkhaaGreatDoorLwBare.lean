/-
  The walks of bare and short.
-/
import Derived.Test.YtbhdkkkaeabkhaaGreatDoorLwFew
import Derived.Test.YtbhdkkkaeabkhaaGreatDoorLxBack
import Derived.Test.YtbhdkkkaeabkhaaGreatDoorLwOpen
namespace Go.Proofs.YtbhdkkkaeabkhaaGreatDoor
open Go.RowKit Go.Shelf
set_option linter.unusedSimpArgs false
set_option linter.unusedVariables false

theorem OwnT.toks {w : World} {base : Nat} {v : Value} {l : List Lx.Tok} (h : OwnT w base v l) : ToksIn w v l := by
  rcases h.2 with ⟨rfl, hn⟩ | ⟨g, cap, cur, rfl, hbg, hgb, hcap, hcm, hcs, htk⟩
  · exact .inl ⟨List.length_eq_zero_iff.1 hn, none, 0, rfl⟩
  · exact .inr ⟨g, cap, cur, (0, 0), rfl, hgb, htk⟩

set_option maxRecDepth 100000 in
set_option maxHeartbeats 8000000 in
theorem lawBare (ts : List Lx.Tok) (v : Value) (w : World) (hv : ToksIn w v ts) (hl : ts.length ≤ 1000000) :
    Calls Tryz.prog 35 #[v] w fun e w' => ∃ u, e = .returned u ∧ ToksIn w' u (ts.map Lx.Tok.bare) ∧ Below w.heap.size w w' := by
  obtain ⟨a0, c0, rfl⟩ := hv.slice
  have HV := Lib.hid hv
  clear hv
  have hl1 : (ts.length : Int) ≤ 1000000 := by omega
  go_enter Tryz.func35, Tryz.ntmps35
  go_wp2
  go_loopg [3, 4] (ts.length) (fun n r v wr => ∃ (m : Nat), n = ts.length - m ∧ v = .int .i64 (m : Int) ∧ m ≤ ts.length ∧ OwnT wr w.heap.size r ((ts.take m).map Lx.Tok.bare) ∧ Below w.heap.size w wr)
  case atStart => exact ⟨0, rfl, rfl, Nat.zero_le _, World.ownsRow_nil _ _ _ _, Below.refl _ _⟩
  case round =>
    obtain ⟨m, hn, rfl, hm, ho, hb⟩ := hrel
    have HN := Lib.hid hn
    have HO := Lib.hid ho
    clear hn ho
    by_cases hlt : m < ts.length
    · have hi : (m : Int) < (ts.length : Int) := by omega
      have hi0 : (0 : Int) ≤ (m : Int) := by omega
      have hmi : (m : Int) ≤ 1000000 := by omega
      obtain ⟨g, cur, fr, rfl, hgb, hcur⟩ := HV.out.at hlt
      have hgb' := (hb.block g (lt_of_block hgb)).trans hgb
      obtain ⟨t0, t1, t2, t3⟩ := toks_at hgb' hcur hlt
      have hgl := lt_of_block hgb'
      obtain ⟨t, ht⟩ : ∃ t, ts[m]'hlt = t := ⟨_, rfl⟩
      rw [ht] at t0 t1 t2 t3
      clear hgb hgb' hcur
      go_upto_region 7 with fail
      have hW := hb.alloc hb.size (.cells #[.int .i64 0, .int .i64 t.kind, .string ⟨t.s.toArray⟩, .int .i64 t.n] 26)
      have hbx := heap_alloc_new wr (.cells #[.int .i64 0, .int .i64 t.kind, .string ⟨t.s.toArray⟩, .int .i64 t.n] 26)
      have ho := HO.out.alloc (.cells #[.int .i64 0, .int .i64 t.kind, .string ⟨t.s.toArray⟩, .int .i64 t.n] 26)
      obtain ⟨W, hWe⟩ : ∃ W, wr.alloc (.cells #[.int .i64 0, .int .i64 t.kind, .string ⟨t.s.toArray⟩, .int .i64 t.n] 26) = W := ⟨_, rfl⟩
      rw [hWe] at hW hbx ho ⊢
      obtain ⟨b0, b1, b2, b3⟩ := four_cells hbx
      have hbl := lt_of_block hbx
      clear hWe t0 t1 t2 t3
      have hmm : ((ts.take m).map Lx.Tok.bare).length = m := by rw [List.length_map, List.length_take]; omega
      have HTM := Lib.hid (show (ts.take (m + 1)).map Lx.Tok.bare = (ts.take m).map Lx.Tok.bare ++ [t.bare] by rw [List.take_succ_eq_append_getElem hlt, ht, List.map_append]; rfl)
      have ho' : W.ownsRow w.heap.size 26 4 u3 m (((ts.take m).map Lx.Tok.bare).flatMap cellsT) := by have := ho; unfold OwnT at this; rw [hmm] at this; exact this
      obtain ⟨i0, hi', hz0, hz1, hz2⟩ := info_parts infoTok
      have hsz := hW.size
      clear ht
      go_wp2_with (at_builtin; refine wpList_append_own _ rfl _ _ 28 rfl w.heap.size 26 i0 _ 4 40 Tryz.underlying28 hi' hz0 hz1 hz2 rfl (by decide) _ _ _ rfl (ho'.alloc _) ⟨W.heap.size, 0, none⟩ 1 1 (cellsT t.bare) rfl rfl (cells_new _ _ _) (by simp [cellsT, Value.oneCell']) (by unfold maxLen; omega) (by omega) (by simp; omega) ?_; intro v' w1 hown' hgrow _)
      go_roundg (ts.length - (m + 1))
      case measure => have := HN.out; omega
      case rel =>
        refine ⟨m + 1, rfl, by simp, hlt, ?_, ?_⟩
        · unfold OwnT
          rw [HTM.out, List.length_append, hmm, List.flatMap_append]
          simpa using hown'
        · refine Below.turn (hW.alloc hsz _) hgrow (fun r e => ?_)
          exact (row_kind ho' r e).1
    · have hi : ¬ (m : Int) < (ts.length : Int) := by omega
      go_wp2
      go_ret
      have h := HO.out.toks
      rw [List.take_of_length_le (by omega)] at h
      exact ⟨_, rfl, h, hb⟩

end Go.Proofs.YtbhdkkkaeabkhaaGreatDoor
