/-
  The walks of Book.Stays and of the mark.
  The walks of coilbook's Roomy and Intact, at tokens.
  The walk of Book.Apart.
-/
import Derived.Test.YtbhdkkkaeabkhaaGreatDoorM18
import Derived.Test.YtbhdkkkaeabkhaaGreatDoorM13
import Derived.Deep.RegionHeld3
import Derived.BigRegion
import Derived.Test.YtbhdkkkaeabkhaaGreatDoorM14
import Derived.Test.YtbhdkkkaeabkhaaGreatDoorM15
namespace Go.Proofs.YtbhdkkkaeabkhaaGreatDoor
open Go.RowKit
set_option linter.unusedSimpArgs false
set_option linter.unusedVariables false

theorem heap_set_self {W : World} {kb j t : Nat} {cs : Array Value} {v : Value} (h : W.heap[kb]? = some (.cells cs t (0, 0))) (hv : cs[j]? = some v) : (W.setCell ⟨kb, j, none⟩ v).heap = W.heap := by
  apply Array.ext_getElem?
  intro k
  by_cases hk : k = kb
  · subst hk
    rw [heap_set h j v, h]
    congr 2
    apply Array.ext_getElem?
    intro i
    rw [Array.getElem?_setIfInBounds]
    by_cases hi : j = i
    · subst hi
      rw [if_pos rfl, hv, if_pos (Array.getElem?_eq_some_iff.1 hv).1]
    · rw [if_neg hi]
  · exact Below.heap_setCell W ⟨kb, j, none⟩ v k hk
theorem below_set_self {W : World} {kb j t : Nat} {cs : Array Value} {v : Value} (h : W.heap[kb]? = some (.cells cs t (0, 0))) (hv : cs[j]? = some v) : Below W.heap.size W (W.setCell ⟨kb, j, none⟩ v) := by
  have e := heap_set_self h hv
  exact ⟨rfl, rfl, rfl, by rw [e]; exact Nat.le_refl _, fun k _ => by rw [e]⟩

/-- The mark of a place in a kept row. -/
def markT (i j : Nat) : Lx.Tok := ⟨0, -1 - (i : Int), [], j⟩
theorem lawMark (i j : Nat) (hi : i ≤ 1000) (hj : j ≤ 1000000000) (w : World) : Calls Tryz.prog 30 #[.int .i64 (i : Int), .int .i64 (j : Int)] w fun e w' =>
    e = .returned (.agg #[.int .i64 (markT i j).pos, .int .i64 (markT i j).kind, .string ⟨(markT i j).s.toArray⟩, .int .i64 (markT i j).n]) ∧ w.grownBy w' none := by
  have hii : (i : Int) ≤ 1000 := by omega
  have hi0 : (0 : Int) ≤ (i : Int) := by omega
  have hji : (j : Int) ≤ 1000000000 := by omega
  go_enter Tryz.func30, Tryz.ntmps30
  go_wp2
  refine bodyPost_ret (v := .agg #[.int .i64 0, .int .i64 (-1 - (i : Int)), .string ⟨#[]⟩, .int .i64 (j : Int)]) (by simp [results, Tryz.results30, go_sem]) rfl ?_
  exact ⟨rfl, World.grownBy_alloc _ _ _⟩

set_option maxRecDepth 100000 in
set_option maxHeartbeats 4000000 in
theorem bookStays (base kb : Nat) (W : World) (E : List Ent) (h : BookW base W kb E) (hE : E.length ≤ 10) (hlen : ∀ e ∈ E, e.2.length ≤ 65537) :
    Calls Tryz.prog 54 #[.pointer (some ⟨kb, 0, none⟩)] W fun e W' => e = .returned (.bool true) ∧ Below W.heap.size W W' := by
  obtain ⟨hbk, hap, vl, vw, held, C, hk, hlr, hwr, hd, h0, h3, hes, hcs⟩ := h
  have hCl : C.length = E.length := by have := hwr.1; omega
  obtain ⟨Al, cl, hvl⟩ : ∃ A c, vl = .slice A E.length c := by
    rcases hlr.2 with ⟨rfl, h0⟩ | ⟨g, cap, cur, rfl, _⟩
    · exact ⟨none, 0, by rw [h0]⟩
    · exact ⟨_, cap, rfl⟩
  obtain ⟨Aw, cw, hvw⟩ : ∃ A c, vw = .slice A E.length c := by
    rcases hwr.2 with ⟨rfl, h0⟩ | ⟨g, cap, cur, rfl, _⟩
    · exact ⟨none, 0, by rw [h0]⟩
    · exact ⟨_, cap, rfl⟩
  subst hvl hvw
  have HK := Lib.hid hk
  have HL := Lib.hid hlr
  have HWR := Lib.hid hwr
  have HES := Lib.hid hes
  have HCS := Lib.hid hcs
  have HCL := Lib.hid hCl
  have hE10 : (E.length : Int) ≤ 10 := by omega
  clear hk hlr hwr hd hes hcs hap h0 h3 hCl
  go_enter Tryz.func54, Tryz.ntmps54
  go_wp2_with fail
  go_loopg [3] (E.length) (fun n v wr => ∃ (m : Nat), n = E.length - m ∧ v = .int .i64 (m : Int) ∧ m ≤ E.length ∧ Below W.heap.size W wr)
  case atStart => exact ⟨0, rfl, rfl, Nat.zero_le _, Below.refl _ _⟩
  case round =>
    obtain ⟨m, hn, rfl, hm, hb⟩ := hrel
    have HN := Lib.hid hn
    have HB := Lib.hid hb
    have m0 : (0 : Int) ≤ (m : Int) := by omega
    have hk2 := (hb.block kb (lt_of_block HK.out)).trans HK.out
    obtain ⟨p0, p1, p2, p3⟩ := four_cells hk2
    obtain ⟨f0, f1, f2, f3⟩ := four_free hk2
    have hlk := lt_of_block hk2
    have HK2 := Lib.hid hk2
    clear hn hb hk2
    by_cases hlt : m < E.length
    · have hi : (m : Int) < (E.length : Int) := by omega
      obtain ⟨e, he⟩ : ∃ e, E[m]? = some e := ⟨_, List.getElem?_eq_getElem hlt⟩
      obtain ⟨c, hc⟩ : ∃ c, C[m]? = some c := ⟨_, List.getElem?_eq_getElem (by rw [HCL.out]; exact hlt)⟩
      have hl2 := HL.out.kept (below_grown HB.out) (by cases (Value.slice Al E.length cl).ownBlock <;> simp)
      have hw2 := HWR.out.kept (below_grown HB.out) (by cases (Value.slice Aw E.length cw).ownBlock <;> simp)
      have hce : ∀ {A : Option Addr} {cp : Nat} {xs : List Value} {u : Value}, wr.ownsRow base 28 1 (.slice A E.length cp) E.length xs → xs[m]? = some u → ∃ g, A = some ⟨g, 0, none⟩ ∧ wr.cell? ⟨g, m, none⟩ = some u ∧ g < wr.heap.size := by
        intro A cp xs u hr hx
        rcases hr.2 with ⟨_, h0⟩ | ⟨g, cap, cur, hv, _, hg, _⟩
        · omega
        · injection hv with h1 h2 h3
          subst h1 h3
          have hcell := World.ownsRow.cells hr (g := g) rfl m u hx
          have e : (⟨g, 0, none⟩ : Addr).add m = ⟨g, m, none⟩ := by
            by_cases h0 : m = 0
            · subst h0; simp [Addr.add]
            · simp [Addr.add, h0]
          rw [e] at hcell
          exact ⟨g, rfl, hcell, lt_of_block hg⟩
      obtain ⟨gl, rfl, tl, hgl⟩ := hce hl2 (u := evE e) (by rw [List.getElem?_map, he]; rfl)
      obtain ⟨gw, rfl, tw, hgw⟩ := hce hw2 hc
      obtain ⟨ve, hve⟩ : ∃ ve, evE e = ve := ⟨_, rfl⟩
      rw [hve] at tl
      have hst : ∀ X, Below wr.heap.size wr X → (Below wr.heap.size wr X ∧ X.cell? ⟨kb, 0, none⟩ = some (.slice (some ⟨gl, 0, none⟩) E.length cl) ∧ X.cell? ⟨kb, 1, none⟩ = some (.slice (some ⟨gw, 0, none⟩) E.length cw) ∧ X.cell? ⟨kb, 3, none⟩ = some (.bool false) ∧ X.frozen? ⟨kb, 3, none⟩ = false ∧ X.cell? ⟨gl, m, none⟩ = some ve ∧ X.cell? ⟨gw, m, none⟩ = some c ∧ kb < X.heap.size ∧ gl < X.heap.size ∧ gw < X.heap.size) := fun X hX => by
        have hkX := (hX.block kb hlk).trans HK2.out
        have hs := hX.size
        exact ⟨hX, cell_of hkX 0, cell_of hkX 1, cell_of hkX 3, free_of hkX 3, (World.cell?_of_block (hX.block gl hgl)).trans tl, (World.cell?_of_block (hX.block gw hgw)).trans tw, by omega, by omega, by omega⟩
      have hsm : ∀ X, (Below wr.heap.size wr X ∧ X.cell? ⟨kb, 0, none⟩ = some (.slice (some ⟨gl, 0, none⟩) E.length cl) ∧ X.cell? ⟨kb, 1, none⟩ = some (.slice (some ⟨gw, 0, none⟩) E.length cw) ∧ X.cell? ⟨kb, 3, none⟩ = some (.bool false) ∧ X.frozen? ⟨kb, 3, none⟩ = false ∧ X.cell? ⟨gl, m, none⟩ = some ve ∧ X.cell? ⟨gw, m, none⟩ = some c ∧ kb < X.heap.size ∧ gl < X.heap.size ∧ gw < X.heap.size) → Calls Tryz.prog 25 #[ve, c] X fun r X' => r = .returned (.bool true) ∧ (Below wr.heap.size wr X' ∧ X'.cell? ⟨kb, 0, none⟩ = some (.slice (some ⟨gl, 0, none⟩) E.length cl) ∧ X'.cell? ⟨kb, 1, none⟩ = some (.slice (some ⟨gw, 0, none⟩) E.length cw) ∧ X'.cell? ⟨kb, 3, none⟩ = some (.bool false) ∧ X'.frozen? ⟨kb, 3, none⟩ = false ∧ X'.cell? ⟨gl, m, none⟩ = some ve ∧ X'.cell? ⟨gw, m, none⟩ = some c ∧ kb < X'.heap.size ∧ gl < X'.heap.size ∧ gw < X'.heap.size) := by
        intro X hS
        have hX := hS.1
        have hl := hlen e (List.mem_of_getElem? he)
        have := lawSameTok e.2 e.2 _ _ X (((HES.out m e he).below HB.out).below hX).toks (((HCS.out m e c he hc).below HB.out).below hX) (by omega) (by omega)
        rw [decide_eq_true rfl, hve] at this
        exact this.mono fun r X' h => ⟨h.1, hst X' (Below.chain hX h.2)⟩
      have hdr : ∀ X, (Below wr.heap.size wr X ∧ X.cell? ⟨kb, 0, none⟩ = some (.slice (some ⟨gl, 0, none⟩) E.length cl) ∧ X.cell? ⟨kb, 1, none⟩ = some (.slice (some ⟨gw, 0, none⟩) E.length cw) ∧ X.cell? ⟨kb, 3, none⟩ = some (.bool false) ∧ X.frozen? ⟨kb, 3, none⟩ = false ∧ X.cell? ⟨gl, m, none⟩ = some ve ∧ X.cell? ⟨gw, m, none⟩ = some c ∧ kb < X.heap.size ∧ gl < X.heap.size ∧ gw < X.heap.size) → (Below wr.heap.size wr X.drew ∧ X.drew.cell? ⟨kb, 0, none⟩ = some (.slice (some ⟨gl, 0, none⟩) E.length cl) ∧ X.drew.cell? ⟨kb, 1, none⟩ = some (.slice (some ⟨gw, 0, none⟩) E.length cw) ∧ X.drew.cell? ⟨kb, 3, none⟩ = some (.bool false) ∧ X.drew.frozen? ⟨kb, 3, none⟩ = false ∧ X.drew.cell? ⟨gl, m, none⟩ = some ve ∧ X.drew.cell? ⟨gw, m, none⟩ = some c ∧ kb < X.drew.heap.size ∧ gl < X.drew.heap.size ∧ gw < X.drew.heap.size) := fun X h => hst _ (Below.drewN h.1 1)
      have hse : ∀ X, (Below wr.heap.size wr X ∧ X.cell? ⟨kb, 0, none⟩ = some (.slice (some ⟨gl, 0, none⟩) E.length cl) ∧ X.cell? ⟨kb, 1, none⟩ = some (.slice (some ⟨gw, 0, none⟩) E.length cw) ∧ X.cell? ⟨kb, 3, none⟩ = some (.bool false) ∧ X.frozen? ⟨kb, 3, none⟩ = false ∧ X.cell? ⟨gl, m, none⟩ = some ve ∧ X.cell? ⟨gw, m, none⟩ = some c ∧ kb < X.heap.size ∧ gl < X.heap.size ∧ gw < X.heap.size) → (Below wr.heap.size wr (X.setCell ⟨kb, 3, none⟩ (.bool false)) ∧ (X.setCell ⟨kb, 3, none⟩ (.bool false)).cell? ⟨kb, 0, none⟩ = some (.slice (some ⟨gl, 0, none⟩) E.length cl) ∧ (X.setCell ⟨kb, 3, none⟩ (.bool false)).cell? ⟨kb, 1, none⟩ = some (.slice (some ⟨gw, 0, none⟩) E.length cw) ∧ (X.setCell ⟨kb, 3, none⟩ (.bool false)).cell? ⟨kb, 3, none⟩ = some (.bool false) ∧ (X.setCell ⟨kb, 3, none⟩ (.bool false)).frozen? ⟨kb, 3, none⟩ = false ∧ (X.setCell ⟨kb, 3, none⟩ (.bool false)).cell? ⟨gl, m, none⟩ = some ve ∧ (X.setCell ⟨kb, 3, none⟩ (.bool false)).cell? ⟨gw, m, none⟩ = some c ∧ kb < (X.setCell ⟨kb, 3, none⟩ (.bool false)).heap.size ∧ gl < (X.setCell ⟨kb, 3, none⟩ (.bool false)).heap.size ∧ gw < (X.setCell ⟨kb, 3, none⟩ (.bool false)).heap.size) := fun X h => hst _ (Below.chain h.1 (below_set_self ((h.1.block kb hlk).trans HK2.out) rfl))
      have hS0 := hst _ (Below.refl wr.heap.size wr)
      clear he hc hl2 hw2 hce hve hst
      go_wp2_with fail
      go_region_held3 (fun X => Below wr.heap.size wr X ∧ X.cell? ⟨kb, 0, none⟩ = some (.slice (some ⟨gl, 0, none⟩) E.length cl) ∧ X.cell? ⟨kb, 1, none⟩ = some (.slice (some ⟨gw, 0, none⟩) E.length cw) ∧ X.cell? ⟨kb, 3, none⟩ = some (.bool false) ∧ X.frozen? ⟨kb, 3, none⟩ = false ∧ X.cell? ⟨gl, m, none⟩ = some ve ∧ X.cell? ⟨gw, m, none⟩ = some c ∧ kb < X.heap.size ∧ gl < X.heap.size ∧ gw < X.heap.size)
        (first | assumption | exact hdr _ hS0 | exact hse _ (by assumption))
        (first
          | (go_at_call 25; refine (hsm _ (by assumption)).mono ?_; rintro r X5 ⟨rfl, hS5⟩))
      all_goals
        have hbx := Lib.hid (Below.chain HB.out (hse _ hS5).1)
        go_wp2_with fail
        go_roundg (E.length - (m + 1))
        case measure => have := HN.out; omega
        case rel => exact ⟨m + 1, rfl, by simp, hlt, hbx.out⟩
    · have hi : ¬ (m : Int) < (E.length : Int) := by omega
      go_wp2_with fail
      go_ret
      exact ⟨rfl, HB.out⟩

end Go.Proofs.YtbhdkkkaeabkhaaGreatDoor

namespace Go.Proofs.YtbhdkkkaeabkhaaGreatDoor
open Go.RowKit
set_option linter.unusedSimpArgs false
set_option linter.unusedVariables false

/-- A row with its room marked, up to a place. -/
def markedT (ts : List Lx.Tok) (t : Lx.Tok) (j : Nat) : List Lx.Tok := ts ++ (List.replicate j t ++ List.replicate (80 - j) zeroT)
theorem markedT_len (ts : List Lx.Tok) (t : Lx.Tok) (j : Nat) (hj : j ≤ 80) : (markedT ts t j).length = ts.length + 80 := by
  unfold markedT
  rw [List.length_append, List.length_append, List.length_replicate, List.length_replicate]
  omega
theorem markedT_start (ts : List Lx.Tok) (t : Lx.Tok) : ts ++ (List.replicate (ts.length + 80) zeroT).drop ts.length = markedT ts t 0 := by
  unfold markedT
  rw [List.drop_replicate, show ts.length + 80 - ts.length = 80 - 0 by omega]
  rfl
theorem markedT_step (ts : List Lx.Tok) (t : Lx.Tok) (j : Nat) (hj : j < 80) : (markedT ts t j).set (ts.length + j) t = markedT ts t (j + 1) := by
  unfold markedT
  rw [List.set_append_right _ _ (by omega), show ts.length + j - ts.length = j by omega, List.set_append_right _ _ (by rw [List.length_replicate]; exact Nat.le_refl _), List.length_replicate, Nat.sub_self]
  obtain ⟨k, hk⟩ : ∃ k, 80 - j = k + 1 := ⟨80 - j - 1, by omega⟩
  rw [hk, List.replicate_succ, List.set_cons_zero, show 80 - (j + 1) = k by omega, List.replicate_succ' (n := j), List.append_assoc]
  rfl
theorem markedT_end (ts : List Lx.Tok) (t : Lx.Tok) : markedT ts t 80 = ts ++ List.replicate 80 t := by
  unfold markedT
  simp
theorem markedT_take (ts : List Lx.Tok) (t : Lx.Tok) (j : Nat) : (markedT ts t j).take ts.length = ts := by
  unfold markedT
  exact List.take_left
theorem Below.set4 {w W : World} {g a b c d : Nat} {x y z u : Value} (h : Below w.heap.size w W) (hg : w.heap.size ≤ g) : Below w.heap.size w ((((W.setCell ⟨g, a, none⟩ x).setCell ⟨g, b, none⟩ y).setCell ⟨g, c, none⟩ z).setCell ⟨g, d, none⟩ u) :=
  BSet (BSet (BSet (BSet h hg) hg) hg) hg

theorem heap_set4 {W : World} {k g a b c d : Nat} {x y z u : Value} (h : k ≠ g) : ((((W.setCell ⟨g, a, none⟩ x).setCell ⟨g, b, none⟩ y).setCell ⟨g, c, none⟩ z).setCell ⟨g, d, none⟩ u).heap[k]? = W.heap[k]? := by
  simp [World.setCell, Array.getElem?_modify, Ne.symm h]
theorem RowW.of_own {w : World} {base g n : Nat} {us : List Lx.Tok} (h : w.ownsRow base 26 4 (.slice (some ⟨g, 0, none⟩) n n) n (us.flatMap cellsT)) : RowW w g us ∧ base ≤ g := by
  rcases h.2 with ⟨h, _⟩ | ⟨g', cap, cur, h, hb, hg, hn, hm, hcs, ht⟩
  · cases h
  · injection h with h1 h2 h3
    injection h1 with h1
    injection h1 with h1
    subst h1 h3
    refine ⟨?_, hb⟩
    rw [List.take_of_length_le (by rw [Array.length_toList]; omega)] at ht
    unfold RowW
    rw [hg, ← ht]

set_option maxRecDepth 100000 in
set_option maxHeartbeats 4000000 in
theorem bookRoomy (ts : List Lx.Tok) (v : Value) (t : Lx.Tok) (w : World) (hv : ToksIn w v ts) (hl : ts.length ≤ 1000000) :
    Calls Tryz.prog 32 #[v, .agg #[.int .i64 t.pos, .int .i64 t.kind, .string ⟨t.s.toArray⟩, .int .i64 t.n]] w fun e w' =>
      ∃ g, e = .returned (.slice (some ⟨g, 0, none⟩) (ts.length + 80) (ts.length + 80)) ∧ w.heap.size ≤ g ∧ RowW w' g (ts ++ List.replicate 80 t) ∧ Below w.heap.size w w' := by
  obtain ⟨a0, cp, rfl⟩ := hv.slice
  have HV := Lib.hid hv
  clear hv
  have hli : (ts.length : Int) ≤ 1000000 := by omega
  go_enter Tryz.func32, Tryz.ntmps32
  have hB := heap_alloc_new w (.cells #[.int .i64 t.pos, .int .i64 t.kind, .string ⟨t.s.toArray⟩, .int .i64 t.n] 26)
  have hbB := grown_below (World.grownBy_alloc w (.cells #[.int .i64 t.pos, .int .i64 t.kind, .string ⟨t.s.toArray⟩, .int .i64 t.n] 26) none)
  obtain ⟨i0, hi', hz0, hz1, hz2⟩ := info_parts infoTok
  go_upto_region 2 with (at_make; refine wpList_make_full _ rfl _ _ 28 rfl w.heap.size 26 i0 _ 4 Tryz.underlying28 hi' hz0 hz1 .i64 .i64 _ _ (ts.length + 80) rfl rfl (by simp) (by simp) (by rw [hz2]; omega) (by unfold maxLen; omega) (by simp) ?_; intro W2 hown hgrow)
  rw [made_toks] at hown
  obtain ⟨hR2, hbR⟩ := RowW.of_own hown
  rw [World.size_alloc] at hR2
  have hB2 := (hgrow.block w.heap.size (by simp) (fun e => nomatch e)).trans hB
  have hb2 := hbB.trans ((grown_below hgrow).mono (by simp))
  have hv2 := HV.out.below hb2
  clear hB hbB hown hgrow hi' hz0 hz1 hz2 hbR
  obtain ⟨G, hG⟩ : ∃ G, w.heap.size + 1 = G := ⟨_, rfl⟩
  rw [hG] at hR2 ⊢
  have hGG : w.heap.size < G := by omega
  clear hG
  go_upto_region 3 with (refine wpList_copy_toks (o := ⟨some 13, _, _, _, _, _⟩) rfl (.tmp 11) (.tmp 12) rfl G (List.replicate (ts.length + 80) zeroT) ts _ (ts.length + 80) (ts.length + 80) rfl rfl hv2 hR2 (by simp) (by simp) ?_; intro W3 hR3 hgr3)
  rw [markedT_start ts t] at hR3
  have HR3 := Lib.hid hR3
  have HB3 := Lib.hid ((hgr3.block w.heap.size (lt_of_block hB2) (fun e => by injection e with e; omega)).trans hB2)
  have HW3 := Lib.hid (Below.turn hb2 hgr3 (fun r e => by injection e with e; omega))
  clear hR3 hgr3 hR2 hB2 hb2 hv2
  go_wp2_with fail
  go_loopg [6] 80 (fun n v wr => ∃ (j k : Nat), n = 80 - j ∧ v = .int .i64 (k : Int) ∧ k = ts.length + j ∧ j ≤ 80 ∧ RowW wr G (markedT ts t j) ∧ Below w.heap.size w wr ∧
    wr.heap[w.heap.size]? = some (.cells #[.int .i64 t.pos, .int .i64 t.kind, .string ⟨t.s.toArray⟩, .int .i64 t.n] 26 (0, 0)))
  case atStart => exact ⟨0, ts.length, rfl, rfl, rfl, Nat.zero_le _, HR3.out, HW3.out, HB3.out⟩
  case round =>
    obtain ⟨j, k, hn, rfl, hk, hj, hR, hb, hB⟩ := hrel
    have HN := Lib.hid hn
    have HK := Lib.hid hk
    have HR := Lib.hid hR
    have HW := Lib.hid hb
    have HB := Lib.hid hB
    have k0 : (0 : Int) ≤ (k : Int) := by omega
    have ki : (k : Int) ≤ 1000080 := by omega
    have hkl : k ≤ ts.length + 80 := by omega
    by_cases hlt : j < 80
    · have hi : (k : Int) < (ts.length : Int) + 80 := by omega
      have hkm : k < (markedT ts t j).length := by rw [markedT_len _ _ _ hj]; omega
      obtain ⟨t0, t1, t2, t3⟩ := hR.at hkm
      obtain ⟨z, hz⟩ : ∃ z, (markedT ts t j)[k]'hkm = z := ⟨_, rfl⟩
      rw [hz] at t0 t1 t2 t3
      obtain ⟨f0, f1, f2, f3⟩ := hR.free (m := k)
      obtain ⟨b0, b1, b2, b3⟩ := four_cells hB
      have hgl := hR.lt
      have hbl := lt_of_block hB
      have HS := Lib.hid (show (markedT ts t j).set k t = markedT ts t (j + 1) by rw [hk]; exact markedT_step ts t j hlt)
      have HKM := Lib.hid hkm
      clear hz hn hk hR hb hB hkm
      go_wp2_with fail
      go_roundg (80 - (j + 1))
      case measure => have := HN.out; omega
      case rel =>
        refine ⟨j + 1, k + 1, rfl, by simp, by have := HK.out; omega, hlt, ?_, Below.set4 HW.out (by omega), ?_⟩
        · have h := HR.out.set HKM.out t
          rw [HS.out] at h
          exact h
        · exact (heap_set4 (by omega)).trans HB.out
    · have hi : ¬ (k : Int) < (ts.length : Int) + 80 := by omega
      have HE := Lib.hid (show markedT ts t j = ts ++ List.replicate 80 t by rw [show j = 80 by omega]; exact markedT_end ts t)
      clear hn hk hR hb hB
      go_wp2_with fail
      go_ret
      have h := HR.out
      rw [HE.out] at h
      exact ⟨G, rfl, by omega, h, HW.out⟩

attribute [local go_sem high] tokNe
set_option maxRecDepth 100000 in
set_option maxHeartbeats 4000000 in
theorem bookIntact (ts : List Lx.Tok) (v : Value) (t : Lx.Tok) (g : Nat) (w : World) (hv : ToksIn w v ts) (hR : RowW w g (ts ++ List.replicate 80 t)) (hl : ts.length ≤ 1000000) :
    Calls Tryz.prog 34 #[.slice (some ⟨g, 0, none⟩) (ts.length + 80) (ts.length + 80), v, .agg #[.int .i64 t.pos, .int .i64 t.kind, .string ⟨t.s.toArray⟩, .int .i64 t.n]] w fun e w' =>
      e = .returned (.bool true) ∧ Below w.heap.size w w' := by
  obtain ⟨a0, cp, rfl⟩ := hv.slice
  have HV := Lib.hid hv
  have HR := Lib.hid hR
  clear hv hR
  have hli : (ts.length : Int) ≤ 1000000 := by omega
  go_enter Tryz.func34, Tryz.ntmps34
  have hB := heap_alloc_new w (.cells #[.int .i64 t.pos, .int .i64 t.kind, .string ⟨t.s.toArray⟩, .int .i64 t.n] 26)
  have hbB := grown_below (World.grownBy_alloc w (.cells #[.int .i64 t.pos, .int .i64 t.kind, .string ⟨t.s.toArray⟩, .int .i64 t.n] 26) none)
  obtain ⟨W1, hW1⟩ : ∃ W1, w.alloc (.cells #[.int .i64 t.pos, .int .i64 t.kind, .string ⟨t.s.toArray⟩, .int .i64 t.n] 26) = W1 := ⟨_, rfl⟩
  rw [hW1] at hB hbB
  have hv1 := HV.out.below hbB
  have hR1 := HR.out.below hbB
  have hf1 : ToksIn W1 (.slice (some ⟨g, 0, none⟩) ts.length (ts.length + 80)) ts := hR1.toks List.take_left
  have hsm := lawSameTok ts ts _ _ W1 hf1 hv1 (by omega) (by omega)
  rw [decide_eq_true rfl] at hsm
  have HB1 := Lib.hid hB
  have HW1 := Lib.hid hbB
  have HR1 := Lib.hid hR1
  have hg1 := hR1.lt
  have hl1 := lt_of_block hB
  clear hB hbB hv1 hR1 hf1
  go_upto_region 1 with fail
  clear hW1
  go_upto_region 3 with (go_at_call 25; refine hsm.mono ?_; clear hsm; rintro e W2 ⟨rfl, hb2⟩)
  have HB2 := Lib.hid ((hb2.block _ hl1).trans HB1.out)
  have HW2 := Lib.hid (Below.chain HW1.out hb2)
  have HR2 := Lib.hid (HR1.out.below hb2)
  clear hb2
  go_wp2_with fail
  go_loopg [7] 80 (fun n v wr => ∃ (j k : Nat), n = 80 - j ∧ v = .int .i64 (k : Int) ∧ k = ts.length + j ∧ j ≤ 80 ∧ wr.heap = W2.heap ∧ Below w.heap.size w wr)
  case atStart => exact ⟨0, ts.length, rfl, rfl, rfl, Nat.zero_le _, rfl, HW2.out⟩
  case round =>
    obtain ⟨j, k, hn, rfl, hk, hj, hh, hb⟩ := hrel
    have HN := Lib.hid hn
    have HK := Lib.hid hk
    have HH := Lib.hid hh
    have HW := Lib.hid hb
    have hR : RowW wr g (ts ++ List.replicate 80 t) := by unfold RowW; rw [hh]; exact HR2.out
    have hB : wr.heap[w.heap.size]? = some (.cells #[.int .i64 t.pos, .int .i64 t.kind, .string ⟨t.s.toArray⟩, .int .i64 t.n] 26 (0, 0)) := by rw [hh]; exact HB2.out
    have k0 : (0 : Int) ≤ (k : Int) := by omega
    have ki : (k : Int) ≤ 1000080 := by omega
    by_cases hlt : j < 80
    · have hi : (k : Int) < (ts.length : Int) + 80 := by omega
      have hkm : k < (ts ++ List.replicate 80 t).length := by rw [List.length_append, List.length_replicate]; omega
      obtain ⟨t0, t1, t2, t3⟩ := hR.at hkm
      have hz : (ts ++ List.replicate 80 t)[k]'hkm = t := by rw [List.getElem_append_right (by omega), List.getElem_replicate]
      rw [hz] at t0 t1 t2 t3
      obtain ⟨b0, b1, b2, b3⟩ := four_cells hB
      have hgl := hR.lt
      have hbl := lt_of_block hB
      have hbq := tokDiff_eq t t
      rw [show (!(t == t)) = false by simp] at hbq
      clear hz hn hk hR hb hB hkm hh
      go_wp2_with fail
      go_quiet (fail)
      go_wp2_with fail
      go_roundg (80 - (j + 1))
      case measure => have := HN.out; omega
      case rel => exact ⟨j + 1, k + 1, rfl, by simp, by have := HK.out; omega, hlt, HH.out, Below.drewN HW.out _⟩
    · have hi : ¬ (k : Int) < (ts.length : Int) + 80 := by omega
      clear hn hk hR hb hB hh
      go_wp2_with fail
      go_ret
      exact ⟨rfl, HW.out⟩

end Go.Proofs.YtbhdkkkaeabkhaaGreatDoor

namespace Go.Proofs.YtbhdkkkaeabkhaaGreatDoor
open Go.RowKit
set_option linter.unusedSimpArgs false
set_option linter.unusedVariables false

/-- Rows of tokens alone were written. -/
structure FrT (W W' : World) : Prop where
  os : W'.os = W.os
  tape : W'.tape = W.tape
  output : W'.output = W.output
  size : W.heap.size ≤ W'.heap.size
  block : ∀ k, k < W.heap.size → (∀ cs fr, W.heap[k]? ≠ some (.cells cs 26 fr)) → W'.heap[k]? = W.heap[k]?
theorem FrT.refl (W : World) : FrT W W := ⟨rfl, rfl, rfl, Nat.le_refl _, fun _ _ _ => rfl⟩
theorem FrT.trans {A B C : World} (h : FrT A B) (h' : FrT B C) : FrT A C :=
  ⟨h'.os.trans h.os, h'.tape.trans h.tape, h'.output.trans h.output, Nat.le_trans h.size h'.size, fun k hk ht => by
    have e := h.block k hk ht
    exact (h'.block k (Nat.lt_of_lt_of_le hk h.size) (by rw [e]; exact ht)).trans e⟩
theorem FrT.grown {W W' : World} {row : Option Nat} (h : W.grownBy W' row) (hr : ∀ r, row = some r → ∃ cs fr, W.heap[r]? = some (.cells cs 26 fr)) : FrT W W' :=
  ⟨h.os, h.tape, h.output, h.size, fun k hk ht => h.block k hk (fun e => by
    obtain ⟨cs, fr, h1⟩ := hr k e.symm
    exact ht cs fr h1)⟩
theorem FrT.drewN {A B : World} (h : FrT A B) (n : Nat) : FrT A (B.drewN n) := ⟨h.os, h.tape, h.output, h.size, h.block⟩
theorem FrT.other {W W' : World} {k t : Nat} {cs : Array Value} {fr : Nat × Nat} (h : FrT W W') (hk : W.heap[k]? = some (.cells cs t fr)) (ht : t ≠ 26) : W'.heap[k]? = some (.cells cs t fr) :=
  (h.block k (lt_of_block hk) (fun cs' fr' e => by rw [hk] at e; injection e with e; injection e with h1 h2 h3; exact ht h2)).trans hk

/-- How many places of a row bear their mark. -/
def markedTo (i j p N : Nat) : Nat := if p < i then N else if p = i then j else 0
/-- The rows, marked so far. -/
def MkAt (base : Nat) (X : World) (E : List Ent) (i j : Nat) : Prop :=
  ∀ (p : Nat) (e : Ent), E[p]? = some e → ∃ us, EntIs base X e us ∧ ∀ q, q < markedTo i j p e.2.length → us[q]? = some (markT p q)
theorem MkAt.start {base kb : Nat} {X : World} {E : List Ent} (h : BookW base X kb E) : MkAt base X E 0 0 := by
  obtain ⟨_, _, vl, vw, held, C, _, _, _, _, _, _, hes, _⟩ := h
  intro p e hp
  refine ⟨e.2, hes p e hp, fun q hq => ?_⟩
  unfold markedTo at hq
  rw [if_neg (Nat.not_lt_zero p)] at hq
  split at hq <;> omega
theorem MkAt.next {base : Nat} {X : World} {E : List Ent} {i : Nat} {e : Ent} (h : MkAt base X E i e.2.length) (he : E[i]? = some e) : MkAt base X E (i + 1) 0 := by
  intro p e' hp
  obtain ⟨us, h1, h2⟩ := h p e' hp
  refine ⟨us, h1, fun q hq => h2 q ?_⟩
  unfold markedTo at hq ⊢
  by_cases hpi : p < i
  · rw [if_pos hpi]
    rw [if_pos (by omega)] at hq
    exact hq
  · rw [if_neg hpi]
    by_cases hpe : p = i
    · subst hpe
      rw [he] at hp
      injection hp with hp
      subst hp
      rw [if_pos rfl]
      rw [if_pos (by omega)] at hq
      exact hq
    · rw [if_neg (by omega)] at hq
      split at hq <;> omega
theorem MkAt.below {base : Nat} {X Y : World} {E : List Ent} {i j : Nat} (h : MkAt base X E i j) (hb : Below X.heap.size X Y) : MkAt base Y E i j := by
  intro p e hp
  obtain ⟨us, h1, h2⟩ := h p e hp
  exact ⟨us, h1.below hb, h2⟩
/-- One place more bears its mark. -/
theorem MkAt.step {base : Nat} {X : World} {E : List Ent} {i j g : Nat} {e : Ent} (h : MkAt base X E i j) (hap : Apart2 E) (he : E[i]? = some e) (hg : e.1 = some g) (hj : j < e.2.length) :
    MkAt base ((((X.setCell ⟨g, j * 4, none⟩ (.int .i64 (markT i j).pos)).setCell ⟨g, j * 4 + 1, none⟩ (.int .i64 (markT i j).kind)).setCell ⟨g, j * 4 + 2, none⟩ (.string ⟨(markT i j).s.toArray⟩)).setCell ⟨g, j * 4 + 3, none⟩ (.int .i64 (markT i j).n)) E i (j + 1) := by
  have hne : e.2 ≠ [] := by intro h; rw [h] at hj; exact absurd hj (Nat.not_lt_zero j)
  intro p e' hp
  obtain ⟨us, h1, h2⟩ := h p e' hp
  by_cases hpe : p = i
  · subst hpe
    rw [he] at hp
    injection hp with hp
    subst hp
    rcases h1.2 with h0 | ⟨g', hg', hb, hr⟩
    · exfalso
      have := h1.1
      rw [h0] at this
      simp only [List.length_nil] at this
      omega
    · rw [hg] at hg'
      injection hg' with hg'
      subst hg'
      have hju : j < us.length := by rw [h1.1]; exact hj
      refine ⟨us.set j (markT p j), ⟨by rw [List.length_set]; exact h1.1, .inr ⟨g, hg, hb, hr.set hju (markT p j)⟩⟩, fun q hq => ?_⟩
      unfold markedTo at hq h2
      rw [if_neg (Nat.lt_irrefl p), if_pos rfl] at hq h2
      rw [List.getElem?_set]
      by_cases hjq : j = q
      · subst hjq
        rw [if_pos rfl, if_pos hju]
      · rw [if_neg hjq]
        exact h2 q (by omega)
  · refine ⟨us, ⟨h1.1, ?_⟩, fun q hq => h2 q ?_⟩
    · by_cases hu0 : us = []
      · exact .inl hu0
      · rcases h1.2 with h0 | ⟨g', hg', hb, hr⟩
        · exact absurd h0 hu0
        · refine .inr ⟨g', hg', hb, hr.kept (heap_set4 (fun hgg => ?_))⟩
          have he2 : e'.2 ≠ [] := fun h0 => hu0 (List.eq_nil_of_length_eq_zero (by rw [h1.1, h0]; rfl))
          rw [hgg] at hg'
          exact hap i p g e e' (fun h => hpe h.symm) he hp hne he2 hg hg'
    · unfold markedTo at hq ⊢
      rw [if_neg hpe] at hq ⊢
      exact hq

theorem below_set {B : Nat} {X : World} {kb j : Nat} {v : Value} (h : B ≤ kb) : Below B X (X.setCell ⟨kb, j, none⟩ v) :=
  ⟨rfl, rfl, rfl, by simp [World.setCell], fun k hk => Below.heap_setCell X ⟨kb, j, none⟩ v k (by show k ≠ kb; omega)⟩
theorem FrT.set4 {X : World} {g a b c d : Nat} {us : List Lx.Tok} {x y z u : Value} (hr : RowX X g us) : FrT X ((((X.setCell ⟨g, a, none⟩ x).setCell ⟨g, b, none⟩ y).setCell ⟨g, c, none⟩ z).setCell ⟨g, d, none⟩ u) := by
  refine ⟨rfl, rfl, rfl, by simp [World.setCell], fun k _ ht => heap_set4 (fun e => ?_)⟩
  obtain ⟨tail, hr⟩ := hr
  exact ht _ _ (by rw [e]; exact hr)
theorem below_set4 {B : Nat} {X : World} {g a b c d : Nat} {x y z u : Value} (hg : B ≤ g) : Below B X ((((X.setCell ⟨g, a, none⟩ x).setCell ⟨g, b, none⟩ y).setCell ⟨g, c, none⟩ z).setCell ⟨g, d, none⟩ u) :=
  ⟨rfl, rfl, rfl, by simp [World.setCell], fun k hk => heap_set4 (by omega)⟩
/-- A place of the row of rows. -/
theorem rows_at {X : World} {base n cp m : Nat} {A : Option Addr} {xs : List Value} {u : Value} (hm : m < n) (hr : X.ownsRow base 28 1 (.slice A n cp) n xs) (hx : xs[m]? = some u) : ∃ g, A = some ⟨g, 0, none⟩ ∧ X.cell? ⟨g, m, none⟩ = some u ∧ g < X.heap.size := by
  rcases hr.2 with ⟨_, h0⟩ | ⟨g, cap, cur, hv, _, hg, _⟩
  · omega
  · injection hv with h1 h2 h3
    subst h1 h3
    have hcell := World.ownsRow.cells hr (g := g) rfl m u hx
    have e : (⟨g, 0, none⟩ : Addr).add m = ⟨g, m, none⟩ := by
      by_cases h0 : m = 0
      · subst h0; simp [Addr.add]
      · simp [Addr.add, h0]
    rw [e] at hcell
    exact ⟨g, rfl, hcell, lt_of_block hg⟩
theorem FrT.rows {X Y : World} {base n : Nat} {v : Value} {xs : List Value} (h : FrT X Y) (hr : X.ownsRow base 28 1 v n xs) : Y.ownsRow base 28 1 v n xs := by
  refine ⟨hr.1, ?_⟩
  rcases hr.2 with h0 | ⟨g, cap, cur, hv, hb, hg, hs⟩
  · exact .inl h0
  · exact .inr ⟨g, cap, cur, hv, hb, h.other hg (by decide), hs⟩

attribute [local go_sem high] tokNe
set_option maxRecDepth 100000 in
set_option maxHeartbeats 8000000 in
theorem bookApart (base kb : Nat) (W : World) (E : List Ent) (h : BookW base W kb E) (hE : E.length ≤ 10) (hlen : ∀ e ∈ E, e.2.length ≤ 65537) :
    Calls Tryz.prog 29 #[.pointer (some ⟨kb, 0, none⟩), .func (.func 30) #[] #[]] W fun e W' => e = .returned (.bool true) ∧ Below base W W' := by
  have hbW : base ≤ W.heap.size := by have := h.lt; have := h.1; omega
  have hst := bookStays base kb W E h hE hlen
  have HBK := Lib.hid h
  have HLEN := Lib.hid hlen
  have hE10 : (E.length : Int) ≤ 10 := by omega
  clear h hlen
  go_enter Tryz.func29, Tryz.ntmps29
  go_upto_region 3 with (go_at_call 54; refine hst.mono ?_; clear hst; rintro e W1 ⟨rfl, hb1⟩)
  have hbk1 := HBK.out.below hb1
  have HM1 := Lib.hid (MkAt.start hbk1)
  obtain ⟨hbk, hap, vl, vw, held, C, hk, hlr, hwr, hd, h0, h3, hes, hcs⟩ := hbk1
  obtain ⟨Al, cl, hvl⟩ : ∃ A c, vl = .slice A E.length c := by
    rcases hlr.2 with ⟨rfl, h0⟩ | ⟨g, cap, cur, rfl, _⟩
    · exact ⟨none, 0, by rw [h0]⟩
    · exact ⟨_, cap, rfl⟩
  subst hvl
  have hB1 : Below base W W1 := Below.mono hb1 hbW
  have hbW1 : base ≤ W1.heap.size := by have := hb1.size; omega
  have HB1 := Lib.hid hB1
  have HK := Lib.hid hk
  have HL := Lib.hid hlr
  have HAP := Lib.hid hap
  clear hk hlr hwr hd hes hcs hap h0 h3 hb1 hB1
  go_wp2_with fail
  go_loopg [5] (E.length) (fun n v wr => ∃ (i : Nat), n = E.length - i ∧ v = .int .i64 (i : Int) ∧ i ≤ E.length ∧ FrT W1 wr ∧ Below base W1 wr ∧ MkAt base wr E i 0)
  case atStart => exact ⟨0, rfl, rfl, Nat.zero_le _, FrT.refl _, Below.refl _ _, HM1.out⟩
  case round =>
    obtain ⟨i, hn, rfl, hi, hF, hB, hM⟩ := hrel
    have HN := Lib.hid hn
    have HF := Lib.hid hF
    have HB := Lib.hid hB
    have HM := Lib.hid hM
    have i0 : (0 : Int) ≤ (i : Int) := by omega
    have hk2 := hF.other HK.out (by decide)
    obtain ⟨p0, p1, p2, p3⟩ := four_cells hk2
    have hlk := lt_of_block hk2
    clear hn hF hB hM hk2
    by_cases hlt : i < E.length
    · have hii : (i : Int) < (E.length : Int) := by omega
      obtain ⟨e, he⟩ : ∃ e, E[i]? = some e := ⟨_, List.getElem?_eq_getElem hlt⟩
      obtain ⟨gl, hgl, tl, hgl2⟩ := rows_at hlt (HF.out.rows HL.out) (u := evE e) (by rw [List.getElem?_map, he]; rfl)
      subst hgl
      have hel := HLEN.out e (List.mem_of_getElem? he)
      have HEE := Lib.hid he
      obtain ⟨us0, hen0, -⟩ := HM.out i e he
      cases hg1 : e.1 with
      | none =>
        have hN : e.2.length = 0 := by
          rcases hen0.2 with h0 | ⟨g, hg, _⟩
          · rw [← hen0.1, h0]; rfl
          · rw [hg1] at hg; cases hg
        have hve : evE e = .slice none 0 0 := by unfold evE; rw [hg1, hN]; rfl
        rw [hve] at tl
        have HNN := Lib.hid hN
        clear he hen0 hve hN
        go_wp2_with fail
        go_quiet (fail)
        obtain ⟨W4, hW4⟩ : ∃ W4, wr.drewN nq = W4 := ⟨_, rfl⟩
        have HF4 : Hid (FrT W1 W4) := Lib.hid (by rw [← hW4]; exact HF.out.drewN _)
        have HB4 : Hid (Below base W1 W4) := Lib.hid (by rw [← hW4]; exact Below.drewN HB.out _)
        have HM4 : Hid (MkAt base W4 E i 0) := Lib.hid (by rw [← hW4]; exact HM.out.below (Below.drewN (Below.refl _ _) _))
        rw [hW4]
        clear hW4 p0 p1 p2 p3 hlk tl hgl2
        go_wp2_with fail
        go_loopg [7] 0 (fun n v wq => n = 0 ∧ v = .int .i64 0 ∧ wq = W4)
        case atStart => exact ⟨rfl, rfl, rfl⟩
        case round =>
          obtain ⟨hn, rfl, rfl⟩ := hrel
          go_wp2_with fail
          go_roundg (E.length - (i + 1))
          case measure => have := HN.out; omega
          case rel => exact ⟨i + 1, rfl, by simp, hlt, HF4.out, HB4.out, MkAt.next (by rw [HNN.out]; exact HM4.out) HEE.out⟩
      | some g =>
        obtain ⟨N, hN⟩ : ∃ N, e.2.length = N := ⟨_, rfl⟩
        have hve : evE e = .slice (some ⟨g, 0, none⟩) N N := by unfold evE; rw [hg1, hN]; rfl
        rw [hve] at tl
        have hN1 : (N : Int) ≤ 65537 := by omega
        have HNN := Lib.hid hN
        have HG1 := Lib.hid hg1
        clear he hen0 hve hN hg1
        go_wp2_with fail
        go_quiet (fail)
        obtain ⟨W4, hW4⟩ : ∃ W4, wr.drewN nq = W4 := ⟨_, rfl⟩
        have HF4 : Hid (FrT W1 W4) := Lib.hid (by rw [← hW4]; exact HF.out.drewN _)
        have HB4 : Hid (Below base W1 W4) := Lib.hid (by rw [← hW4]; exact Below.drewN HB.out _)
        have HM4 : Hid (MkAt base W4 E i 0) := Lib.hid (by rw [← hW4]; exact HM.out.below (Below.drewN (Below.refl _ _) _))
        rw [hW4]
        clear hW4 p0 p1 p2 p3 hlk tl hgl2
        go_wp2_with fail
        go_loopg [7] N (fun n v wq => ∃ (j : Nat), n = N - j ∧ v = .int .i64 (j : Int) ∧ j ≤ N ∧ FrT W1 wq ∧ Below base W1 wq ∧ MkAt base wq E i j)
        case atStart => exact ⟨0, rfl, rfl, Nat.zero_le _, HF4.out, HB4.out, HM4.out⟩
        case round =>
          obtain ⟨j, hn, rfl, hj, hF5, hB5, hM5⟩ := hrel
          have HN5 := Lib.hid hn
          have HF5 := Lib.hid hF5
          have HB5 := Lib.hid hB5
          have HM5 := Lib.hid hM5
          have j0 : (0 : Int) ≤ (j : Int) := by omega
          clear hn hF5 hB5 hM5
          by_cases hjl : j < N
          · have hjj : (j : Int) < (N : Int) := by omega
            have hmk := fun X => lawMark i j (by omega) (by omega) X
            obtain ⟨us, hen, -⟩ := HM5.out i e HEE.out
            obtain ⟨hb6, hr6⟩ : base ≤ g ∧ RowX wr g us := by
              rcases hen.2 with h0 | ⟨g', hg', hb, hr⟩
              · have := hen.1; rw [h0, HNN.out] at this; simp only [List.length_nil] at this; omega
              · rw [HG1.out] at hg'; injection hg' with hg'; subst hg'; exact ⟨hb, hr⟩
            have hju : j < us.length := by rw [hen.1, HNN.out]; exact hjl
            have HR6 := Lib.hid hr6
            have HJU := Lib.hid hju
            clear hen hr6 hju
            go_wp2_with (go_at_call 30; refine (hmk _).mono ?_; clear hmk; rintro e' W7 ⟨rfl, hg7⟩; have hr7 := HR6.out.kept (hg7.block g HR6.out.lt (fun e => nomatch e)); obtain ⟨t0, t1, t2, t3⟩ := hr7.at HJU.out; obtain ⟨f0, f1, f2, f3⟩ := hr7.free (m := j); have hgl7 := hr7.lt)
            have hF8 := Lib.hid ((HF5.out.trans (FrT.grown hg7 (fun r e => nomatch e))).trans (FrT.set4 (a := j * 4) (b := j * 4 + 1) (c := j * 4 + 2) (d := j * 4 + 3) (x := .int .i64 (markT i j).pos) (y := .int .i64 (markT i j).kind) (z := .string ⟨(markT i j).s.toArray⟩) (u := .int .i64 (markT i j).n) hr7))
            have hB8 := Lib.hid ((HB5.out.trans (below_grownB hg7 (by have := HB5.out.size; omega) (fun r e => nomatch e))).trans (below_set4 (a := j * 4) (b := j * 4 + 1) (c := j * 4 + 2) (d := j * 4 + 3) (x := .int .i64 (markT i j).pos) (y := .int .i64 (markT i j).kind) (z := .string ⟨(markT i j).s.toArray⟩) (u := .int .i64 (markT i j).n) hb6))
            have hM8 := Lib.hid ((HM5.out.below (grown_below hg7)).step HAP.out HEE.out HG1.out (by rw [HNN.out]; exact hjl))
            clear t0 t1 t2 t3 f0 f1 f2 f3 hgl7 hr7 hg7
            go_roundg (N - (j + 1))
            case measure => have := HN5.out; omega
            case rel => exact ⟨j + 1, rfl, by simp, hjl, hF8.out, hB8.out, hM8.out⟩
          · have hjj : ¬ (j : Int) < (N : Int) := by omega
            go_wp2_with fail
            go_roundg (E.length - (i + 1))
            case measure => have := HN.out; omega
            case rel => exact ⟨i + 1, rfl, by simp, hlt, HF5.out, HB5.out, MkAt.next (by rw [HNN.out, ← show j = N by omega]; exact HM5.out) HEE.out⟩
    · have hii : ¬ (i : Int) < (E.length : Int) := by omega
      have HM9 := Lib.hid (show MkAt base wr E E.length 0 by rw [show E.length = i by omega]; exact HM.out)
      have HL9 := Lib.hid (HF.out.rows HL.out)
      have HK9 := Lib.hid (HF.out.other HK.out (by decide))
      have hbf := Lib.hid (HB1.out.trans HB.out)
      have hbwr : base ≤ wr.heap.size := by have := HB.out.size; omega
      go_wp2_with fail
      obtain ⟨W9, hW9⟩ : ∃ W9, wr = W9 := ⟨_, rfl⟩
      rw [hW9] at HM9 HL9 HK9 hbf hbwr ⊢
      clear hW9 p0 p1 p2 p3 hlk HF HB HM
      go_loopg [8] (E.length) (fun n v wx => ∃ (i2 : Nat), n = E.length - i2 ∧ v = .int .i64 (i2 : Int) ∧ i2 ≤ E.length ∧ Below W9.heap.size W9 wx)
      case atStart => exact ⟨0, rfl, rfl, Nat.zero_le _, Below.refl _ _⟩
      case round =>
        obtain ⟨i2, hn, rfl, hi2, hB⟩ := hrel
        have HN2 := Lib.hid hn
        have HB2 := Lib.hid hB
        have i20 : (0 : Int) ≤ (i2 : Int) := by omega
        have hk2 := (hB.block kb (lt_of_block HK9.out)).trans HK9.out
        obtain ⟨p0, p1, p2, p3⟩ := four_cells hk2
        obtain ⟨f0, f1, f2, f3⟩ := four_free hk2
        have hlk := lt_of_block hk2
        clear hn hB hk2
        by_cases hlt2 : i2 < E.length
        · have hii2 : (i2 : Int) < (E.length : Int) := by omega
          obtain ⟨e, he⟩ : ∃ e, E[i2]? = some e := ⟨_, List.getElem?_eq_getElem hlt2⟩
          obtain ⟨gl, hgl, tl, hgl2⟩ := rows_at hlt2 (HL9.out.kept (below_grown HB2.out) (by cases (Value.slice Al E.length cl).ownBlock <;> simp)) (u := evE e) (by rw [List.getElem?_map, he]; rfl)
          subst hgl
          have hel := HLEN.out e (List.mem_of_getElem? he)
          obtain ⟨us, hen, hmk⟩ := HM9.out i2 e he
          have hmt : markedTo E.length 0 i2 e.2.length = e.2.length := by unfold markedTo; rw [if_pos hlt2]
          rw [hmt] at hmk
          obtain ⟨N, hN⟩ : ∃ N, e.2.length = N := ⟨_, rfl⟩
          have hN1 : (N : Int) ≤ 65537 := by omega
          rw [hN] at hmk
          have HNN := Lib.hid hN
          have HEN := Lib.hid hen
          have HMK := Lib.hid hmk
          obtain ⟨A, hA⟩ : ∃ A, (e.1.map fun g => (⟨g, 0, none⟩ : Addr)) = A := ⟨_, rfl⟩
          have hve : evE e = .slice A N N := by unfold evE; rw [hN, hA]
          rw [hve] at tl
          have HA := Lib.hid hA
          have hcaseA : (A = none ∧ N = 0) ∨ ∃ g, A = some ⟨g, 0, none⟩ := by
            cases h1 : e.1 with
            | none =>
              rw [h1] at hA
              refine .inl ⟨hA.symm, ?_⟩
              rcases hen.2 with h0 | ⟨g, hg, _⟩
              · rw [← hN, ← hen.1, h0]; rfl
              · rw [h1] at hg; cases hg
            | some g => rw [h1] at hA; exact .inr ⟨g, hA.symm⟩
          clear he hen hmk hmt hve hN hA
          rcases hcaseA with ⟨rfl, rfl⟩ | ⟨g, rfl⟩
          · go_wp2_with fail
            go_quiet (fail)
            obtain ⟨W4, hW4⟩ : ∃ W4, wr.drewN nq = W4 := ⟨_, rfl⟩
            have HB4 : Hid (Below W9.heap.size W9 W4) := Lib.hid (by rw [← hW4]; exact Below.drewN HB2.out _)
            rw [hW4]
            clear hW4 p0 p1 p2 p3 f0 f1 f2 f3 hlk tl hgl2
            go_wp2_with fail
            go_loopg [10] 0 (fun n v wq => n = 0 ∧ v = .int .i64 0 ∧ wq = W4)
            case atStart => exact ⟨rfl, rfl, rfl⟩
            case round =>
              obtain ⟨hn, rfl, rfl⟩ := hrel
              go_wp2_with fail
              go_roundg (E.length - (i2 + 1))
              case measure => have := HN2.out; omega
              case rel => exact ⟨i2 + 1, rfl, by simp, hlt2, HB4.out⟩
          · go_wp2_with fail
            go_quiet (fail)
            obtain ⟨W4, hW4⟩ : ∃ W4, wr.drewN nq = W4 := ⟨_, rfl⟩
            have HB4 : Hid (Below W9.heap.size W9 W4) := Lib.hid (by rw [← hW4]; exact Below.drewN HB2.out _)
            rw [hW4]
            clear hW4 p0 p1 p2 p3 f0 f1 f2 f3 hlk tl hgl2
            go_wp2_with fail
            go_loopg [10] N (fun n v wq => ∃ (j : Nat), n = N - j ∧ v = .int .i64 (j : Int) ∧ j ≤ N ∧ Below W9.heap.size W9 wq)
            case atStart => exact ⟨0, rfl, rfl, Nat.zero_le _, HB4.out⟩
            case round =>
              obtain ⟨j, hn, rfl, hj, hB5⟩ := hrel
              have HN5 := Lib.hid hn
              have HB5 := Lib.hid hB5
              have j0 : (0 : Int) ≤ (j : Int) := by omega
              clear hn hB5
              by_cases hjl : j < N
              · have hjj : (j : Int) < (N : Int) := by omega
                obtain ⟨X1, hX1⟩ : ∃ X1, wr = X1 := ⟨_, rfl⟩
                rw [hX1] at HB5 ⊢
                clear hX1
                have hr6 : RowX X1 g us := by
                  rcases (HEN.out.below HB5.out).2 with h0 | ⟨g', hg', hb, hr⟩
                  · have := HEN.out.1; rw [h0, HNN.out] at this; simp only [List.length_nil] at this; omega
                  · have hA := HA.out
                    rw [hg'] at hA
                    simp only [Option.map_some, Option.some.injEq, Addr.mk.injEq, and_true] at hA
                    subst hA
                    exact hr
                have hju : j < us.length := by rw [HEN.out.1, HNN.out]; exact hjl
                have huj : us[j]'hju = markT i2 j := by
                  have := HMK.out j hjl
                  rw [List.getElem?_eq_getElem hju] at this
                  injection this
                obtain ⟨t0, t1, t2, t3⟩ := hr6.at hju
                rw [huj] at t0 t1 t2 t3
                have hg6 := hr6.lt
                have hbq := tokDiff_eq (markT i2 j) (markT i2 j)
                rw [show (!(markT i2 j == markT i2 j)) = false by simp] at hbq
                have hst : ∀ X, Below X1.heap.size X1 X → (Below X1.heap.size X1 X ∧ X.cell? ⟨g, j * 4, none⟩ = some (.int .i64 (markT i2 j).pos) ∧ X.cell? ⟨g, j * 4 + 1, none⟩ = some (.int .i64 (markT i2 j).kind) ∧ X.cell? ⟨g, j * 4 + 2, none⟩ = some (.string ⟨(markT i2 j).s.toArray⟩) ∧ X.cell? ⟨g, j * 4 + 3, none⟩ = some (.int .i64 (markT i2 j).n) ∧ g < X.heap.size) := fun X hX => by
                  have hs := hX.size
                  exact ⟨hX, (World.cell?_of_block (hX.block g hg6)).trans t0, (World.cell?_of_block (hX.block g hg6)).trans t1, (World.cell?_of_block (hX.block g hg6)).trans t2, (World.cell?_of_block (hX.block g hg6)).trans t3, by omega⟩
                have hmk : ∀ X, (Below X1.heap.size X1 X ∧ X.cell? ⟨g, j * 4, none⟩ = some (.int .i64 (markT i2 j).pos) ∧ X.cell? ⟨g, j * 4 + 1, none⟩ = some (.int .i64 (markT i2 j).kind) ∧ X.cell? ⟨g, j * 4 + 2, none⟩ = some (.string ⟨(markT i2 j).s.toArray⟩) ∧ X.cell? ⟨g, j * 4 + 3, none⟩ = some (.int .i64 (markT i2 j).n) ∧ g < X.heap.size) → Calls Tryz.prog 30 #[.int .i64 (i2 : Int), .int .i64 (j : Int)] X fun r X' => r = .returned (.agg #[.int .i64 (markT i2 j).pos, .int .i64 (markT i2 j).kind, .string ⟨(markT i2 j).s.toArray⟩, .int .i64 (markT i2 j).n]) ∧ (Below X1.heap.size X1 X' ∧ X'.cell? ⟨g, j * 4, none⟩ = some (.int .i64 (markT i2 j).pos) ∧ X'.cell? ⟨g, j * 4 + 1, none⟩ = some (.int .i64 (markT i2 j).kind) ∧ X'.cell? ⟨g, j * 4 + 2, none⟩ = some (.string ⟨(markT i2 j).s.toArray⟩) ∧ X'.cell? ⟨g, j * 4 + 3, none⟩ = some (.int .i64 (markT i2 j).n) ∧ g < X'.heap.size) :=
                  fun X hS => (lawMark i2 j (by omega) (by omega) X).mono fun r X' h => ⟨h.1, hst X' (Below.chain hS.1 (grown_below h.2))⟩
                have hdr : ∀ X, (Below X1.heap.size X1 X ∧ X.cell? ⟨g, j * 4, none⟩ = some (.int .i64 (markT i2 j).pos) ∧ X.cell? ⟨g, j * 4 + 1, none⟩ = some (.int .i64 (markT i2 j).kind) ∧ X.cell? ⟨g, j * 4 + 2, none⟩ = some (.string ⟨(markT i2 j).s.toArray⟩) ∧ X.cell? ⟨g, j * 4 + 3, none⟩ = some (.int .i64 (markT i2 j).n) ∧ g < X.heap.size) → (Below X1.heap.size X1 X.drew ∧ X.drew.cell? ⟨g, j * 4, none⟩ = some (.int .i64 (markT i2 j).pos) ∧ X.drew.cell? ⟨g, j * 4 + 1, none⟩ = some (.int .i64 (markT i2 j).kind) ∧ X.drew.cell? ⟨g, j * 4 + 2, none⟩ = some (.string ⟨(markT i2 j).s.toArray⟩) ∧ X.drew.cell? ⟨g, j * 4 + 3, none⟩ = some (.int .i64 (markT i2 j).n) ∧ g < X.drew.heap.size) := fun X h => hst _ (Below.drewN h.1 1)
                have hS0 := hst _ (Below.refl X1.heap.size X1)
                clear hr6 hju huj hst t0 t1 t2 t3 hg6
                go_wp2_with fail
                go_region_held3 (fun X => Below X1.heap.size X1 X ∧ X.cell? ⟨g, j * 4, none⟩ = some (.int .i64 (markT i2 j).pos) ∧ X.cell? ⟨g, j * 4 + 1, none⟩ = some (.int .i64 (markT i2 j).kind) ∧ X.cell? ⟨g, j * 4 + 2, none⟩ = some (.string ⟨(markT i2 j).s.toArray⟩) ∧ X.cell? ⟨g, j * 4 + 3, none⟩ = some (.int .i64 (markT i2 j).n) ∧ g < X.heap.size)
                  (first | assumption | exact hdr _ hS0)
                  (first
                    | (go_at_call 30; refine (hmk _ (by assumption)).mono ?_; rintro r X5 ⟨rfl, hS5⟩))
                all_goals
                  have hbx := Lib.hid (Below.chain HB5.out hS5.1)
                  go_wp2_with fail
                  go_roundg (N - (j + 1))
                  case measure => have := HN5.out; omega
                  case rel => exact ⟨j + 1, rfl, by simp, hjl, hbx.out⟩
              · have hjj : ¬ (j : Int) < (N : Int) := by omega
                go_wp2_with fail
                go_roundg (E.length - (i2 + 1))
                case measure => have := HN2.out; omega
                case rel => exact ⟨i2 + 1, rfl, by simp, hlt2, HB5.out⟩
        · have hii2 : ¬ (i2 : Int) < (E.length : Int) := by omega
          go_wp2_with fail
          go_ret
          have h1 := hbf.out.trans (HB2.out.mono hbwr)
          exact ⟨rfl, ((h1.trans (below_set hbk)).trans (below_set hbk)).trans (below_set hbk)⟩

end Go.Proofs.YtbhdkkkaeabkhaaGreatDoor
