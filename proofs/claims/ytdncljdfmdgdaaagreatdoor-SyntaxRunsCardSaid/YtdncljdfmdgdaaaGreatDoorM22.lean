/-
  The walk of syntax.Stmts.
  coilbook.Same at texts; the two lists of words.
  coilbook.Same at rows of texts.
  The walk of syntax.Names.
  The walks of syntax.Nodes and syntax.Depth.
  Small helpers of the laws.
-/
import Derived.Test.YtdncljdfmdgdaaaGreatDoorM21
import Derived.Test.YtdncljdfmdgdaaaGreatDoorM6
import Derived.Test.YtdncljdfmdgdaaaGreatDoorM10
import Derived.Test.YtdncljdfmdgdaaaGreatDoorM8
namespace Go.Proofs.YtdncljdfmdgdaaaGreatDoor
open Go.RowKit Go.Shelf Go.WideMaps
set_option linter.unusedSimpArgs false
set_option linter.unusedVariables false

theorem Sx.okS_mem {d : Nat} {l : List Sx.St} (h : Sx.rightSs NM d l = true) : ∀ s ∈ l, Sx.okS s := fun s hs => ⟨d, Sx.rightSs_mem h s hs⟩
set_option maxRecDepth 100000 in
set_option maxHeartbeats 4000000 in
theorem synStmtsT (l : List Sx.St) (v : Value) (W : World) (hG : GS W) (hN : NG ≤ W.heap.size) (ht : StRow W v l) (hsz : Sx.sizeSs l ≤ 1000000) (hlen : (Sx.stmts SY l).length ≤ 900000000) :
    Calls Tryz.prog 24 #[v] W fun e W' => e = .returned (.tuple #[.string ⟨(Sx.said (Sx.rightSs NM 64 l) (Sx.stmts SY l)).1.toArray⟩, .int .i64 ((Sx.said (Sx.rightSs NM 64 l) (Sx.stmts SY l)).2 : Nat)]) ∧ Below W.heap.size W W' := by
  have hrt : ∀ X, Below W.heap.size W X → Calls Tryz.prog 65 #[v, .int .i64 64] X fun e W' => e = .returned (.bool (Sx.rightSs NM 64 l)) ∧ Below X.heap.size X W' := fun X hb => synRightSsAll 64 (by omega) l v X (hG.below hb) (Nat.le_trans hN hb.size) (ht.below hb) hsz
  have htyp := fun b w (hr : Sx.rightSs NM 64 l = true) (h : Wrote W b 0 [] w) => synStmtsAll (b := b) hG hN _ l (Nat.le_refl _) v [] w (Sx.okS_mem hr) ht hsz h (by simpa using hlen)
  obtain ⟨A, c, rfl, -, -⟩ := ht
  obtain ⟨L, hL⟩ : ∃ L, W.heap.size = L := ⟨_, rfl⟩
  obtain ⟨w3, hw3⟩ : ∃ w3, W.alloc (.cells #[.pointer none, .slice none 0 0, .int .i64 0] 104) = w3 := ⟨_, rfl⟩
  have htree : w3.heap[L]? = some (.cells #[.pointer none, .slice none 0 0, .int .i64 0] 104 (0, 0)) := by rw [← hw3, ← hL]; exact heap_alloc_new W _
  have hb3 : Below W.heap.size W w3 := by rw [← hw3]; exact grown_below (World.grownBy_alloc W _ none)
  have hs3 : L < w3.heap.size := lt_of_block htree
  have HFR := Lib.hid (show ∀ w4, Below w3.heap.size w3 w4 → Wrote W L 0 [] w4 ∧ L < w4.heap.size from fun w4 hb4 =>
    ⟨Wrote.fresh (by omega) ((hb4.block L hs3).trans htree) (hb3.trans (hb4.mono hb3.size)), Nat.lt_of_lt_of_le hs3 hb4.size⟩)
  have HRT := Lib.hid (hrt w3 hb3)
  have HTYP := Lib.hid htyp
  have HLN := Lib.hid hlen
  clear hrt htyp hlen hb3 htree hG hsz
  cases hr : Sx.rightSs NM 64 l with
  | false =>
    rw [hr] at HRT
    have HR := Lib.hid hr
    clear hr
    go_enter Tryz.func24, Tryz.ntmps24
    go_wp2_with (first
      | (go_at_call 65; refine HRT.out.mono ?_; rintro e w4 ⟨rfl, hb4⟩; obtain ⟨hW, hl4⟩ := HFR.out w4 hb4; have hW4 := Lib.hid hW; clear hb4 hW)
      | (go_at_call 60; refine (toldEnd hW4.out (by omega) false (fun _ => rfl)).mono ?_; rintro e w5 ⟨rfl, hb5⟩))
    refine bodyPost_ret (results_tmp2 rfl _ _ _) rfl ?_
    exact ⟨rfl, by first | exact hb5 | exact hL ▸ hb5⟩
  | true =>
    rw [hr] at HRT
    have HR := Lib.hid hr
    clear hr
    go_enter Tryz.func24, Tryz.ntmps24
    go_wp2_with (first
      | (go_at_call 65; refine HRT.out.mono ?_; rintro e w4 ⟨rfl, hb4⟩; obtain ⟨hW, hl4⟩ := HFR.out w4 hb4; have hW4 := Lib.hid hW; clear hb4 hW)
      | (go_at_call 66; refine (HTYP.out L w4 HR.out hW4.out).mono ?_; rintro e w5 ⟨rfl, h5, -⟩; have hl5 := h5.lt; have hW5 := Lib.hid h5; clear h5)
      | (go_at_call 60; refine (toldEnd hW5.out (by have := HLN.out; simp; omega) true (fun h => by cases h)).mono ?_; rintro e w6 ⟨rfl, hb6⟩))
    refine bodyPost_ret (results_tmp2 rfl _ _ _) rfl ?_
    exact ⟨rfl, by first | exact hb6 | exact hL ▸ hb6⟩

end Go.Proofs.YtdncljdfmdgdaaaGreatDoor

namespace Go.Proofs.YtdncljdfmdgdaaaGreatDoor
open Go.RowKit Go.Shelf
set_option linter.unusedSimpArgs false
set_option linter.unusedVariables false

/-- A row of texts, read from its block's head. -/
def StrsIn (w : World) (v : Value) (l : List Lx.Bytes) : Prop :=
  ∃ g c cur fr, v = .slice (some ⟨g, 0, none⟩) l.length c ∧ w.heap[g]? = some (.cells cur 9 fr) ∧ cur.toList.take l.length = l.map (fun s => Value.string ⟨s.toArray⟩)
theorem StrsIn.below {w w' : World} {v : Value} {ts : List Lx.Bytes} (h : StrsIn w v ts) (hb : Below w.heap.size w w') : StrsIn w' v ts := by
  obtain ⟨g, c, cur, fr, h1, h2, h3⟩ := h
  exact ⟨g, c, cur, fr, h1, (hb.block g (lt_of_block h2)).trans h2, h3⟩
theorem strs_at {w : World} {ts : List Lx.Bytes} {g m : Nat} {cur : Array Value} {fr : Nat × Nat} (hg : w.heap[g]? = some (.cells cur 9 fr)) (hc : cur.toList.take ts.length = ts.map (fun s => Value.string ⟨s.toArray⟩)) (h : m < ts.length) :
    w.cell? ⟨g, m, none⟩ = some (.string ⟨(ts[m]'h).toArray⟩) := by
  rw [cell_of hg, ← Array.getElem?_toList, ← List.getElem?_take_of_lt (l := cur.toList) h, hc, List.getElem?_map, List.getElem?_eq_getElem h]
  rfl
theorem refWords (w : World) : Calls Tryz.prog 192 #[] w fun e w' =>
    e = .returned (.slice (some ⟨w.heap.size, 0, none⟩) 25 25) ∧ w' = w.alloc (.cells wordCells 9) := by
  go_enter Tryz.func192, Tryz.ntmps192
  go_wp2
  go_ret
  exact ⟨rfl, rfl⟩
theorem strsWords (w : World) : StrsIn (w.alloc (.cells wordCells 9)) (.slice (some ⟨w.heap.size, 0, none⟩) 25 25) Lx.words :=
  ⟨w.heap.size, 25, wordCells, (0, 0), rfl, heap_alloc_new w _, rfl⟩

set_option maxHeartbeats 4000000 in
theorem lawSameStr (ts us : List Lx.Bytes) (v u : Value) (w : World) (hv : StrsIn w v ts) (hu : StrsIn w u us) (hl : ts.length ≤ 1000000000) (hl2 : us.length ≤ 1000000000) :
    Calls Tryz.prog 16 #[v, u] w fun e w' => e = .returned (.bool (decide (ts = us))) ∧ Below w.heap.size w w' := by
  obtain ⟨g, c0, cur, fr, rfl, hgb, hcur⟩ := hv
  obtain ⟨g2, d0, cur2, fr2, rfl, hgb2, hcur2⟩ := hu
  have HA := Lib.hid hgb
  have HB := Lib.hid hgb2
  have HC := Lib.hid hcur
  have HD := Lib.hid hcur2
  clear hgb hgb2 hcur hcur2
  by_cases hlen : ts.length = us.length
  · have hb : ((ts.length : Int) != (us.length : Int)) = false := by simp [hlen]
    have HL := Lib.hid hlen
    clear hlen
    go_enter Tryz.func16, Tryz.ntmps16
    go_wp2
    go_loopg [5] (ts.length) (fun n v wr => ∃ (m : Nat), n = ts.length - m ∧ v = .int .i64 (m : Int) ∧ m ≤ ts.length ∧ ts.take m = us.take m ∧ Below w.heap.size w wr)
    case atStart => exact ⟨0, rfl, rfl, Nat.zero_le _, by simp, Below.refl _ _⟩
    case round =>
      obtain ⟨m, hn, rfl, hm, he, hbl⟩ := hrel
      have HN := Lib.hid hn
      have HE := Lib.hid he
      clear hn he
      by_cases hlt : m < ts.length
      · have hlt2 : m < us.length := by rw [← HL.out]; exact hlt
        have hi : (m : Int) < (ts.length : Int) := by omega
        have hi2 : (m : Int) < (us.length : Int) := by omega
        have hi0 : (0 : Int) ≤ (m : Int) := by omega
        have hmi : (m : Int) ≤ 1000000000 := by omega
        have hgb' := (hbl.block g (lt_of_block HA.out)).trans HA.out
        have hgb2' := (hbl.block g2 (lt_of_block HB.out)).trans HB.out
        have t0 := strs_at hgb' HC.out hlt
        have u0 := strs_at hgb2' HD.out hlt2
        have hgl := lt_of_block hgb'
        have hgl2 := lt_of_block hgb2'
        obtain ⟨t, ht⟩ : ∃ t, ts[m]'hlt = t := ⟨_, rfl⟩
        obtain ⟨x, hx⟩ : ∃ x, us[m]'hlt2 = x := ⟨_, rfl⟩
        rw [ht] at t0
        rw [hx] at u0
        have HT := Lib.hid ht
        have HX := Lib.hid hx
        clear ht hx hgb' hgb2'
        cases hq : (t == x) with
        | true =>
          have htx : t = x := by simpa using hq
          have HS := Lib.hid (take_step HE.out hlt hlt2 (by rw [HT.out, HX.out, htx]))
          clear htx
          go_wp2
          go_quiet (fail)
          go_wp2
          go_roundg (ts.length - (m + 1))
          case measure => have := HN.out; omega
          case rel => exact ⟨m + 1, rfl, by simp, hlt, HS.out, Below.drewN hbl _⟩
        | false =>
          have htx : t ≠ x := by simpa using hq
          have HS := Lib.hid (show decide (ts = us) = false by
            rw [decide_eq_false_iff_not]
            rintro rfl
            exact htx (HT.out.symm.trans HX.out))
          clear htx
          go_wp2
          go_quiet (fail)
          go_wp2
          go_ret
          rw [HS.out]
          exact ⟨rfl, Below.drewN hbl _⟩
      · have hi : ¬ (m : Int) < (ts.length : Int) := by omega
        have HS := Lib.hid (show decide (ts = us) = true by
          rw [decide_eq_true_eq]
          have h1 := HE.out
          rwa [List.take_of_length_le (by omega), List.take_of_length_le (by have := HL.out; omega)] at h1)
        go_wp2
        go_ret
        rw [HS.out]
        exact ⟨rfl, hbl⟩
  · have hb : ((ts.length : Int) != (us.length : Int)) = true := by simp; omega
    have HS := Lib.hid (show decide (ts = us) = false by
      rw [decide_eq_false_iff_not]
      rintro rfl
      exact hlen rfl)
    clear hlen
    go_enter Tryz.func16, Tryz.ntmps16
    go_wp2
    go_ret
    rw [HS.out]
    exact ⟨rfl, Below.refl _ _⟩

end Go.Proofs.YtdncljdfmdgdaaaGreatDoor

namespace Go.Proofs.YtdncljdfmdgdaaaGreatDoor
open Go.RowKit Go.Shelf
set_option linter.unusedSimpArgs false
set_option linter.unusedVariables false

set_option maxHeartbeats 4000000 in
theorem synSameStr (ts us : List Lx.Bytes) (v u : Value) (w : World) (hv : StrRow w v ts) (hu : StrRow w u us) (hl : ts.length ≤ 1000000000) (hl2 : us.length ≤ 1000000000) :
    Calls Tryz.prog 16 #[v, u] w fun e w' => e = .returned (.bool (decide (ts = us))) ∧ Below w.heap.size w w' := by
  obtain ⟨A1, c1, rfl, hv'⟩ := hv
  obtain ⟨A2, c2, rfl, hu'⟩ := hu
  have HA := Lib.hid (show StrRow w (.slice A1 ts.length c1) ts from ⟨A1, c1, rfl, hv'⟩)
  have HB := Lib.hid (show StrRow w (.slice A2 us.length c2) us from ⟨A2, c2, rfl, hu'⟩)
  clear hv' hu'
  by_cases hlen : ts.length = us.length
  · have hb : ((ts.length : Int) != (us.length : Int)) = false := by simp [hlen]
    have HL := Lib.hid hlen
    clear hlen
    go_enter Tryz.func16, Tryz.ntmps16
    go_wp2
    go_loopg [5] (ts.length) (fun n v wr => ∃ (m : Nat), n = ts.length - m ∧ v = .int .i64 (m : Int) ∧ m ≤ ts.length ∧ ts.take m = us.take m ∧ Below w.heap.size w wr)
    case atStart => exact ⟨0, rfl, rfl, Nat.zero_le _, by simp, Below.refl _ _⟩
    case round =>
      obtain ⟨m, hn, rfl, hm, he, hbl⟩ := hrel
      have HN := Lib.hid hn
      have HE := Lib.hid he
      clear hn he
      by_cases hlt : m < ts.length
      · have hlt2 : m < us.length := by rw [← HL.out]; exact hlt
        have hi : (m : Int) < (ts.length : Int) := by omega
        have hi2 : (m : Int) < (us.length : Int) := by omega
        have hi0 : (0 : Int) ≤ (m : Int) := by omega
        have hmi : (m : Int) ≤ 1000000000 := by omega
        obtain ⟨g, off, rfl, hgl, t0⟩ := HA.out.cellAt hbl m hlt
        obtain ⟨g2, off2, rfl, hgl2, u0⟩ := HB.out.cellAt hbl m hlt2
        obtain ⟨t, ht⟩ : ∃ t, ts[m]'hlt = t := ⟨_, rfl⟩
        obtain ⟨x, hx⟩ : ∃ x, us[m]'hlt2 = x := ⟨_, rfl⟩
        rw [ht] at t0
        rw [hx] at u0
        have HT := Lib.hid ht
        have HX := Lib.hid hx
        clear ht hx
        cases hq : (t == x) with
        | true =>
          have htx : t = x := by simpa using hq
          have HS := Lib.hid (take_step HE.out hlt hlt2 (by rw [HT.out, HX.out, htx]))
          clear htx
          go_wp2
          go_quiet (fail)
          go_wp2
          go_roundg (ts.length - (m + 1))
          case measure => have := HN.out; omega
          case rel => exact ⟨m + 1, rfl, by simp, hlt, HS.out, Below.drewN hbl _⟩
        | false =>
          have htx : t ≠ x := by simpa using hq
          have HS := Lib.hid (show decide (ts = us) = false by
            rw [decide_eq_false_iff_not]
            rintro rfl
            exact htx (HT.out.symm.trans HX.out))
          clear htx
          go_wp2
          go_quiet (fail)
          go_wp2
          go_ret
          rw [HS.out]
          exact ⟨rfl, Below.drewN hbl _⟩
      · have hi : ¬ (m : Int) < (ts.length : Int) := by omega
        have HS := Lib.hid (show decide (ts = us) = true by
          rw [decide_eq_true_eq]
          have h1 := HE.out
          rwa [List.take_of_length_le (by omega), List.take_of_length_le (by have := HL.out; omega)] at h1)
        go_wp2
        go_ret
        rw [HS.out]
        exact ⟨rfl, hbl⟩
  · have hb : ((ts.length : Int) != (us.length : Int)) = true := by simp; omega
    have HS := Lib.hid (show decide (ts = us) = false by
      rw [decide_eq_false_iff_not]
      rintro rfl
      exact hlen rfl)
    clear hlen
    go_enter Tryz.func16, Tryz.ntmps16
    go_wp2
    go_ret
    rw [HS.out]
    exact ⟨rfl, Below.refl _ _⟩


end Go.Proofs.YtdncljdfmdgdaaaGreatDoor

namespace Go.Proofs.YtdncljdfmdgdaaaGreatDoor
open Go.RowKit Go.WideMaps
set_option linter.unusedSimpArgs false
set_option linter.unusedVariables false

/-- A row of the call's own reads as a row of texts. -/
theorem OwnS.row {w : World} {B : Nat} {v : Value} {l : List Lx.Bytes} (h : OwnS w B v l) : StrRow w v l := by
  obtain ⟨A, c, hv⟩ := h.slice
  refine ⟨A, c, hv, fun i hi => ?_⟩
  rcases h.2 with ⟨h1, h0⟩ | ⟨g, cap, cur, h1, _, h2, _, _, _, h3⟩
  · omega
  · rw [hv] at h1
    injection h1 with h1 _ _
    refine ⟨g, 0, h1, ?_⟩
    rw [cell_of h2, Nat.zero_add, ← Array.getElem?_toList, ← List.getElem?_take_of_lt (l := cur.toList) (j := l.length * 1) (by omega), h3]
    simp [strsV, hi]

set_option maxRecDepth 100000 in
set_option maxHeartbeats 8000000 in
theorem synNames (l : List Sx.Ty) (v : Value) (W : World) (hn : Sx.sizeL l ≤ 1000000) (hv : TyRow W v l) :
    Calls Tryz.prog 17 #[v] W fun e W' => ∃ A, e = .returned (.slice A (Sx.once [] (Sx.allNamesL l)).length (Sx.once [] (Sx.allNamesL l)).length) ∧ StrRow W' (.slice A (Sx.once [] (Sx.allNamesL l)).length (Sx.once [] (Sx.allNamesL l)).length) (Sx.once [] (Sx.allNamesL l)) ∧ Below W.heap.size W W' := by
  have hmm := @run_makeMap Tryz.prog
  obtain ⟨A, c, rfl, hcap, hl⟩ := hv
  have hv : TyRow W (.slice A l.length c) l := ⟨A, c, rfl, hcap, hl⟩
  have HV := Lib.hid hv
  clear hv hl
  obtain ⟨L, hL⟩ : ∃ L, W.heap.size = L := ⟨_, rfl⟩
  have hmet : ∀ X, (((W.alloc (.cells #[.slice none 0 0] 22)).alloc (.map #[] 0)).alloc (.cells #[.map (some (W.heap.size + 1))] 107)) = X → Met W.heap.size W.heap.size (W.heap.size + 1 + 1) (W.heap.size + 1) [] X ∧ Below W.heap.size W X := by
    rintro X rfl
    refine ⟨⟨Nat.le_refl _, by omega, by omega, ⟨.slice none 0 0, ((Boxed.new W _ _).alloc _).alloc _, World.ownsRow_nil _ _ _ _⟩, ?_, 0, .map [], Nat.le_refl _, ?_, Maps.isMap_empty, fun s => rfl⟩, ?_⟩
    · have := Boxed.new ((W.alloc (.cells #[.slice none 0 0] 22)).alloc (.map #[] 0)) 107 (.map (some (W.heap.size + 1)))
      simpa using this
    · have := (World.ownsMap_made (W.alloc (.cells #[.slice none 0 0] 22)) Tryz.prog 9 (plainElem (H := Unit) Tryz.prog 3)).alloc (.cells #[.map (some (W.heap.size + 1))] 107)
      simpa using this
    · exact (((Below.refl _ W).alloc (Nat.le_refl _) _).alloc (by simp) _).alloc (by simp; omega) _
  have HMET := Lib.hid hmet
  clear hmet
  go_enter Tryz.func17, Tryz.ntmps17
  obtain ⟨X, hX⟩ : ∃ X, (((W.alloc (.cells #[.slice none 0 0] 22)).alloc (.map #[] 0)).alloc (.cells #[.map (some (L + 1))] 107)) = X := ⟨_, rfl⟩
  have hh := HMET.out X (by rw [← hX, hL])
  have hcall := synNamesGo W W.heap.size (W.heap.size + 1 + 1) (W.heap.size + 1) (Sx.sizeL l) l _ [] X (Nat.le_refl _) (by simpa using hn) HV.out hh.2 hh.1
  rw [hL] at hcall
  have HC := Lib.hid hcall
  clear hcall hh
  go_wp2_with fail
  refine HC.out.mono ?_
  rintro e W3 ⟨rfl, ⟨-, -, -, ⟨u, hbl, ho⟩, -, -⟩, hb3, -⟩
  have cL := hbl.cell
  have hl3 := hbl.lt
  rw [List.nil_append] at ho
  obtain ⟨A', c', rfl⟩ := ho.slice
  have HO := Lib.hid ho
  have HB3 := Lib.hid hb3
  obtain ⟨r, hr⟩ : ∃ r, Sx.once [] (Sx.allNamesL l) = r := ⟨_, rfl⟩
  have HR := Lib.hid hr
  have hrl : r.length ≤ 1000000 := by
    have := Sx.once_len (Sx.allNamesL l) []
    have := Sx.namesL_size l
    rw [← hr]
    simp at *
    omega
  have hrc : r.length ≤ c' := by
    rcases ho.2 with ⟨h1, h0⟩ | ⟨g, cap, cur, h1, _, _, h2, _⟩
    · rw [hr] at h0; omega
    · rw [hr] at h1 h2; injection h1 with _ _ h1; omega
  have hri : (r.length : Int) ≤ (c' : Int) := by omega
  have hr0 : (0 : Int) ≤ (r.length : Int) := by omega
  rw [hr] at cL
  clear ho hbl hb3 hr
  go_wp2_with fail
  go_ret
  rw [HR.out]
  refine ⟨A', rfl, ?_, by rw [hL]; exact HB3.out⟩
  obtain ⟨A1, c1, h1, h2⟩ := HO.out.row
  rw [HR.out] at h1 h2
  injection h1 with h1 _ _
  subst h1
  exact ⟨A', r.length, rfl, h2⟩

end Go.Proofs.YtdncljdfmdgdaaaGreatDoor

namespace Go.Proofs.YtdncljdfmdgdaaaGreatDoor
open Go.RowKit
set_option linter.unusedSimpArgs false
set_option linter.unusedVariables false

set_option maxRecDepth 100000 in
set_option maxHeartbeats 4000000 in
theorem synNodes : ∀ (n : Nat) (l : List Sx.Ty) (v : Value) (W : World), Sx.sizeL l ≤ n → n ≤ 1000000 → TyRow W v l →
    Calls Tryz.prog 15 #[v] W fun e W' => e = .returned (.int .i64 (Sx.nodesL l : Nat)) ∧ Below W.heap.size W W' := by
  intro n
  induction n using Nat.strongRecOn with
  | _ n ih =>
    intro l v W hn hn1 hv
    obtain ⟨A, c, rfl, hcap, hl⟩ := hv
    have hlen := Sx.length_size l
    have hnl := Sx.nodesL_size l
    have hli : (l.length : Int) ≤ 1000000 := by omega
    have HL := Lib.hid hl
    have HIH := Lib.hid ih
    clear ih hl
    go_enter Tryz.func15, Tryz.ntmps15
    go_wp2_with fail
    go_loopg [3, 8] (l.length) (fun i u v wr => ∃ (m k : Nat), i = l.length - m ∧ v = .int .i64 (m : Int) ∧ u = .int .i64 (k : Int) ∧ k = Sx.nodesL (l.take m) ∧ m ≤ l.length ∧ Below W.heap.size W wr)
    case atStart => exact ⟨0, 0, rfl, rfl, rfl, rfl, Nat.zero_le _, Below.refl _ _⟩
    case round =>
      obtain ⟨m, k, hi, rfl, rfl, hk, hm, hb⟩ := hrel
      have HI := Lib.hid hi
      have HK := Lib.hid hk
      have HB := Lib.hid hb
      have m0 : (0 : Int) ≤ (m : Int) := by omega
      have k0 : (0 : Int) ≤ (k : Int) := by omega
      have hkb : k ≤ 1000000 := by have := Sx.nodesL_take_le l m; omega
      have hki : (k : Int) ≤ 1000000 := by omega
      clear hi hk hb
      by_cases hlt : m < l.length
      · have hmi : (m : Int) < (l.length : Int) := by omega
        obtain ⟨g, off, v0, v1, v2, v3, v4, rfl, c0, c1, c2, c3, c4, ht⟩ := IsTys.at (IsTys.below HB.out l _ 0 HL.out) m hlt
        obtain ⟨t, hte⟩ : ∃ t, l[m]'hlt = t := ⟨_, rfl⟩
        have hmem : t ∈ l := by rw [← hte]; exact List.getElem_mem hlt
        rw [hte] at ht
        have HSZ := Lib.hid (Sx.parts_mem hmem)
        have HSM := Lib.hid (Sx.size_mem hmem)
        have HT := Lib.hid (Sx.nodes_take hlt)
        have HTE := Lib.hid hte
        obtain ⟨vn, ve, vp, hagg, hsn, hse, hsp⟩ := ht.limbs
        obtain ⟨An, cn, hvn, -⟩ := id hsn
        obtain ⟨Ae, ce, hve, -⟩ := id hse
        obtain ⟨Ap, cp, hvp, -, -⟩ := id hsp
        subst hvn hve hvp
        injection hagg with hagg
        simp only [Array.mk.injEq, List.cons.injEq, and_true] at hagg
        obtain ⟨rfl, rfl, rfl, rfl, rfl⟩ := hagg
        rw [Nat.zero_add] at c0 c1 c2 c3 c4
        have hgl := World.block_lt_of_cell? wr ⟨g, _, none⟩ c0
        simp only at hgl
        have HP := Lib.hid hsp
        have hnp := Sx.nodesL_size t.parts
        obtain ⟨np, hnpe⟩ : ∃ np, Sx.nodesL t.parts = np := ⟨_, rfl⟩
        have hnpi : (np : Int) ≤ 1000000 := by have := HSZ.out; omega
        have hnp0 : (0 : Int) ≤ (np : Int) := by omega
        have hnt := Sx.nodes_parts t
        have HNT := Lib.hid hnt
        have HNP := Lib.hid hnpe
        have hrec : ∀ X, Below wr.heap.size wr X → Calls Tryz.prog 15 #[.slice Ap t.parts.length cp] X fun e X' => e = .returned (.int .i64 (np : Int)) ∧ Below X.heap.size X X' := by
          intro X hX
          have := HIH.out (Sx.sizeL t.parts) (by have := HSZ.out; omega) t.parts _ X (Nat.le_refl _) (by have := HSZ.out; omega) (HP.out.below hX)
          rw [HNP.out] at this
          exact this
        have HREC := Lib.hid hrec
        obtain ⟨kd, hkd⟩ : ∃ kd, t.kind = kd := ⟨_, rfl⟩
        have HKD := Lib.hid hkd
        rw [hkd] at c0
        clear hsn hse hsp ht hnp hnpe hnt hrec hkd hte
        have hbx : Below wr.heap.size wr (wr.alloc (.cells #[.int .i64 kd, .string ⟨t.name.toArray⟩, .slice An t.names.length cn, .slice Ae t.embeds.length ce, .slice Ap t.parts.length cp] 26)) := grown_below (World.grownBy_alloc _ _ _)
        have hrc := HREC.out _ hbx
        by_cases h4 : kd = 4
        · have h4b : (kd != 4) = false := by simp [h4]
          have H4 := Lib.hid h4
          clear h4
          go_wp2_with (go_at_call 15; refine hrc.mono ?_; clear hrc; rintro e W5 ⟨rfl, hb5⟩)
          go_roundg (l.length - (m + 1))
          case measure => have := HI.out; omega
          case rel =>
            refine ⟨m + 1, k + np, rfl, by simp, by simp, ?_, hlt, (HB.out.trans (hbx.mono HB.out.size)).trans (hb5.mono (Nat.le_trans HB.out.size hbx.size))⟩
            rw [HT.out, HTE.out, HNT.out, HKD.out, H4.out, HNP.out, ← HK.out]
            simp
        · have h4b : (kd != 4) = true := by simp [h4]
          have H4 := Lib.hid h4
          clear h4
          go_wp2_with (go_at_call 15; refine hrc.mono ?_; clear hrc; rintro e W5 ⟨rfl, hb5⟩)
          go_roundg (l.length - (m + 1))
          case measure => have := HI.out; omega
          case rel =>
            refine ⟨m + 1, k + 1 + np, rfl, by simp, by simp, ?_, hlt, (HB.out.trans (hbx.mono HB.out.size)).trans (hb5.mono (Nat.le_trans HB.out.size hbx.size))⟩
            rw [HT.out, HTE.out, HNT.out, HKD.out, if_neg H4.out, HNP.out, ← HK.out]
            omega
      · have hmi : ¬ (m : Int) < (l.length : Int) := by omega
        go_wp2_with fail
        go_ret
        refine ⟨?_, HB.out⟩
        rw [HK.out, List.take_of_length_le (by omega)]
        rfl

set_option maxRecDepth 100000 in
set_option maxHeartbeats 4000000 in
theorem synDepth : ∀ (n : Nat) (l : List Sx.Ty) (v : Value) (W : World), Sx.sizeL l ≤ n → n ≤ 1000000 → TyRow W v l →
    Calls Tryz.prog 18 #[v] W fun e W' => e = .returned (.int .i64 (Sx.depthL l : Nat)) ∧ Below W.heap.size W W' := by
  intro n
  induction n using Nat.strongRecOn with
  | _ n ih =>
    intro l v W hn hn1 hv
    obtain ⟨A, c, rfl, hcap, hl⟩ := hv
    have hlen := Sx.length_size l
    have hnl := Sx.depthL_size l
    have hli : (l.length : Int) ≤ 1000000 := by omega
    have HL := Lib.hid hl
    have HIH := Lib.hid ih
    clear ih hl
    go_enter Tryz.func18, Tryz.ntmps18
    go_wp2_with fail
    go_loopg [3, 8] (l.length) (fun i u v wr => ∃ (m k : Nat), i = l.length - m ∧ v = .int .i64 (m : Int) ∧ u = .int .i64 (k : Int) ∧ k = Sx.depthL (l.take m) ∧ m ≤ l.length ∧ Below W.heap.size W wr)
    case atStart => exact ⟨0, 0, rfl, rfl, rfl, rfl, Nat.zero_le _, Below.refl _ _⟩
    case round =>
      obtain ⟨m, k, hi, rfl, rfl, hk, hm, hb⟩ := hrel
      have HI := Lib.hid hi
      have HK := Lib.hid hk
      have HB := Lib.hid hb
      have m0 : (0 : Int) ≤ (m : Int) := by omega
      have k0 : (0 : Int) ≤ (k : Int) := by omega
      have hkb : k ≤ 1000000 := by have := Sx.depthL_take_le l m; omega
      have hki : (k : Int) ≤ 1000000 := by omega
      clear hi hk hb
      by_cases hlt : m < l.length
      · have hmi : (m : Int) < (l.length : Int) := by omega
        obtain ⟨g, off, v0, v1, v2, v3, v4, rfl, c0, c1, c2, c3, c4, ht⟩ := IsTys.at (IsTys.below HB.out l _ 0 HL.out) m hlt
        obtain ⟨t, hte⟩ : ∃ t, l[m]'hlt = t := ⟨_, rfl⟩
        have hmem : t ∈ l := by rw [← hte]; exact List.getElem_mem hlt
        rw [hte] at ht
        have HSZ := Lib.hid (Sx.parts_mem hmem)
        have HSM := Lib.hid (Sx.size_mem hmem)
        have HT := Lib.hid (Sx.depth_take hlt)
        have HTE := Lib.hid hte
        obtain ⟨vn, ve, vp, hagg, hsn, hse, hsp⟩ := ht.limbs
        obtain ⟨An, cn, hvn, -⟩ := id hsn
        obtain ⟨Ae, ce, hve, -⟩ := id hse
        obtain ⟨Ap, cp, hvp, -, -⟩ := id hsp
        subst hvn hve hvp
        injection hagg with hagg
        simp only [Array.mk.injEq, List.cons.injEq, and_true] at hagg
        obtain ⟨rfl, rfl, rfl, rfl, rfl⟩ := hagg
        rw [Nat.zero_add] at c0 c1 c2 c3 c4
        have hgl := World.block_lt_of_cell? wr ⟨g, _, none⟩ c0
        simp only at hgl
        have HP := Lib.hid hsp
        have hnp := Sx.depthL_size t.parts
        obtain ⟨np, hnpe⟩ : ∃ np, Sx.depthL t.parts = np := ⟨_, rfl⟩
        have hnpi : (np : Int) ≤ 1000000 := by have := HSZ.out; omega
        have hnp0 : (0 : Int) ≤ (np : Int) := by omega
        have hnt := Sx.depth_parts t
        have HNT := Lib.hid hnt
        have HNP := Lib.hid hnpe
        have hrec : ∀ X, Below wr.heap.size wr X → Calls Tryz.prog 18 #[.slice Ap t.parts.length cp] X fun e X' => e = .returned (.int .i64 (np : Int)) ∧ Below X.heap.size X X' := by
          intro X hX
          have := HIH.out (Sx.sizeL t.parts) (by have := HSZ.out; omega) t.parts _ X (Nat.le_refl _) (by have := HSZ.out; omega) (HP.out.below hX)
          rw [HNP.out] at this
          exact this
        have HREC := Lib.hid hrec
        obtain ⟨kd, hkd⟩ : ∃ kd, t.kind = kd := ⟨_, rfl⟩
        have HKD := Lib.hid hkd
        rw [hkd] at c0
        clear hsn hse hsp ht hnp hnpe hnt hrec hkd hte
        have hbx : Below wr.heap.size wr (wr.alloc (.cells #[.int .i64 kd, .string ⟨t.name.toArray⟩, .slice An t.names.length cn, .slice Ae t.embeds.length ce, .slice Ap t.parts.length cp] 26)) := grown_below (World.grownBy_alloc _ _ _)
        have hrc := HREC.out _ hbx
        have hmx : max (k : Int) (1 + (np : Int)) = ((max k (1 + np) : Nat) : Int) := by omega
        have HMX := Lib.hid hmx
        clear hmx
        go_wp2_with (go_at_call 18; refine hrc.mono ?_; clear hrc; rintro e W5 ⟨rfl, hb5⟩)
        go_roundg (l.length - (m + 1))
        case measure => have := HI.out; omega
        case rel =>
          refine ⟨m + 1, max k (1 + np), rfl, by simp, ?_, ?_, hlt, (HB.out.trans (hbx.mono HB.out.size)).trans (hb5.mono (Nat.le_trans HB.out.size hbx.size))⟩
          · rw [HMX.out]
          · rw [HT.out, HTE.out, HNT.out, HNP.out, ← HK.out]
      · have hmi : ¬ (m : Int) < (l.length : Int) := by omega
        go_wp2_with fail
        go_ret
        refine ⟨?_, HB.out⟩
        rw [HK.out, List.take_of_length_le (by omega)]
        rfl

end Go.Proofs.YtdncljdfmdgdaaaGreatDoor

namespace Go.Proofs.YtdncljdfmdgdaaaGreatDoor
open Go.RowKit Go.Shelf
set_option linter.unusedSimpArgs false
set_option linter.unusedVariables false

theorem ownNew (w : World) (base : Nat) (c : UInt8) (hb : base ≤ w.heap.size) : OwnB (w.alloc (.cells #[.int .u8 (c.toNat : Int)] 5)) base (.slice (some ⟨w.heap.size, 0, none⟩) 1 1) [c] :=
  ⟨rfl, .inr ⟨w.heap.size, 1, #[.int .u8 (c.toNat : Int)], rfl, hb, heap_alloc_new w _, Nat.le_refl _, by unfold maxLen; omega, rfl, rfl⟩⟩

theorem LW.trans {w W X : World} (h : LW w W) (h' : LW W X) : LW w X := ⟨h.b.trans (h'.b.mono h.b.size), h'.g, h'.n⟩
theorem LW.self {w W : World} (h : LW w W) : LW W W := LW.refl h.g h.n
/-- A text that is cut without a fault. -/
theorem lwTokensOk {w W : World} (h : LW w W) (s : ByteArray) (hs : s.size ≤ 140737488351232) {ts : List Lx.Tok} (hT : Lx.toks s.data.toList = (ts, none)) :
    Calls Tryz.prog 47 #[.string s] W fun e W' => ∃ v, e = .returned (.tuple #[v, .nilIface]) ∧ LW w W' ∧ ToksIn W' v ts := by
  refine (lwTokens h s hs).mono ?_
  rw [hT]
  rintro e W' ⟨h1, h2, h3, v, rfl, hr⟩
  exact ⟨v, rfl, h1, row_toks (w' := W') hr⟩
/-- .. with a fault. -/
theorem lwTokensBad {w W : World} (h : LW w W) (s : ByteArray) (hs : s.size ≤ 140737488351232) {ts : List Lx.Tok} {y x : Nat} (hT : Lx.toks s.data.toList = (ts, some (y, x))) :
    Calls Tryz.prog 47 #[.string s] W fun e W' => ∃ g, e = .returned (.tuple #[.slice none 0 0, .iface 130 (.pointer (some ⟨g, 0, none⟩))]) ∧ LW w W' ∧ IsRef W' g x y := by
  refine (lwTokens h s hs).mono ?_
  rw [hT]
  rintro e W' ⟨h1, h2, h3, g, rfl, hr, _⟩
  exact ⟨g, rfl, h1, hr⟩

end Go.Proofs.YtdncljdfmdgdaaaGreatDoor
