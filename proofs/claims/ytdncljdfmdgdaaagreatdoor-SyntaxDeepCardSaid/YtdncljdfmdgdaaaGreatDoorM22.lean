/-
  The walk of syntax.Stmts.
  The walks of syntax.Nodes and syntax.Depth.
  Small helpers of the laws.
  The walk of coilbook.Within.
-/
import Derived.Test.YtdncljdfmdgdaaaGreatDoorM21
import Derived.Test.YtdncljdfmdgdaaaGreatDoorM8
import Derived.Test.YtdncljdfmdgdaaaGreatDoorM6
namespace Go.Proofs.YtdncljdfmdgdaaaGreatDoor
open Go.RowKit Go.Shelf Go.WideMaps
set_option linter.unusedSimpArgs false
set_option linter.unusedVariables false

theorem Sx.okS_mem {d : Nat} {l : List Sx.St} (h : Sx.rightSs NM d l = true) : ∀ s ∈ l, Sx.okS s := fun s hs => ⟨d, Sx.rightSs_mem h s hs⟩
set_option maxRecDepth 100000 in
set_option maxHeartbeats 4000000 in
theorem synStmtsT (l : List Sx.St) (v : Value) (W : World) (hG : GS W) (hN : NG ≤ W.heap.size) (ht : StRow W v l) (hsz : Sx.sizeSs l ≤ 1000000) (hlen : (Sx.stmts SY l).length ≤ 900000000) :
    Calls Tryz.prog 24 #[v] W fun e W' => e = .returned (.tuple #[.string ⟨(Sx.said (Sx.rightSs NM 64 l) (Sx.stmts SY l)).1.toArray⟩, .int .i64 ((Sx.said (Sx.rightSs NM 64 l) (Sx.stmts SY l)).2 : Nat)]) ∧ Below W.heap.size W W' := by
  have hrt : ∀ X, Below W.heap.size W X → Calls Tryz.prog 65 #[v, .int .i64 64] X fun e W' => e = .returned (.bool (Sx.rightSs NM 64 l)) ∧ Below X.heap.size X W' := fun X hb => synRightSsAll 64 (by omega) l v X (hG.below hb) (Nat.le_trans hN hb.size) (ht.below hb) hsz
  have htyp := fun b w (hr : Sx.rightSs NM 64 l = true) (h : Wrote W b 0 [] w) => synStmtsAll (b := b) hG hN _ l (Nat.le_refl _) v [] w (Sx.okS_mem hr) ht hsz h (by simpa using hlen)
  obtain ⟨A, c, rfl, -, -⟩ := ht
  obtain ⟨L, hL⟩ : ∃ L, W.heap.size = L := ⟨_, rfl⟩
  obtain ⟨w3, hw3⟩ : ∃ w3, W.alloc (.cells #[.pointer none, .slice none 0 0, .int .i64 0] 104) = w3 := ⟨_, rfl⟩
  have htree : w3.heap[L]? = some (.cells #[.pointer none, .slice none 0 0, .int .i64 0] 104 (0, 0)) := by rw [← hw3, ← hL]; exact heap_alloc_new W _
  have hb3 : Below W.heap.size W w3 := by rw [← hw3]; exact grown_below (World.grownBy_alloc W _ none)
  have hs3 : L < w3.heap.size := lt_of_block htree
  have HFR := Lib.hid (show ∀ w4, Below w3.heap.size w3 w4 → Wrote W L 0 [] w4 ∧ L < w4.heap.size from fun w4 hb4 =>
    ⟨Wrote.fresh (by omega) ((hb4.block L hs3).trans htree) (hb3.trans (hb4.mono hb3.size)), Nat.lt_of_lt_of_le hs3 hb4.size⟩)
  have HRT := Lib.hid (hrt w3 hb3)
  have HTYP := Lib.hid htyp
  have HLN := Lib.hid hlen
  clear hrt htyp hlen hb3 htree hG hsz
  cases hr : Sx.rightSs NM 64 l with
  | false =>
    rw [hr] at HRT
    have HR := Lib.hid hr
    clear hr
    go_enter Tryz.func24, Tryz.ntmps24
    go_wp2_with (first
      | (go_at_call 65; refine HRT.out.mono ?_; rintro e w4 ⟨rfl, hb4⟩; obtain ⟨hW, hl4⟩ := HFR.out w4 hb4; have hW4 := Lib.hid hW; clear hb4 hW)
      | (go_at_call 60; refine (toldEnd hW4.out (by omega) false (fun _ => rfl)).mono ?_; rintro e w5 ⟨rfl, hb5⟩))
    refine bodyPost_ret (results_tmp2 rfl _ _ _) rfl ?_
    exact ⟨rfl, by first | exact hb5 | exact hL ▸ hb5⟩
  | true =>
    rw [hr] at HRT
    have HR := Lib.hid hr
    clear hr
    go_enter Tryz.func24, Tryz.ntmps24
    go_wp2_with (first
      | (go_at_call 65; refine HRT.out.mono ?_; rintro e w4 ⟨rfl, hb4⟩; obtain ⟨hW, hl4⟩ := HFR.out w4 hb4; have hW4 := Lib.hid hW; clear hb4 hW)
      | (go_at_call 66; refine (HTYP.out L w4 HR.out hW4.out).mono ?_; rintro e w5 ⟨rfl, h5, -⟩; have hl5 := h5.lt; have hW5 := Lib.hid h5; clear h5)
      | (go_at_call 60; refine (toldEnd hW5.out (by have := HLN.out; simp; omega) true (fun h => by cases h)).mono ?_; rintro e w6 ⟨rfl, hb6⟩))
    refine bodyPost_ret (results_tmp2 rfl _ _ _) rfl ?_
    exact ⟨rfl, by first | exact hb6 | exact hL ▸ hb6⟩

end Go.Proofs.YtdncljdfmdgdaaaGreatDoor

namespace Go.Proofs.YtdncljdfmdgdaaaGreatDoor
open Go.RowKit
set_option linter.unusedSimpArgs false
set_option linter.unusedVariables false

set_option maxRecDepth 100000 in
set_option maxHeartbeats 4000000 in
theorem synNodes : ∀ (n : Nat) (l : List Sx.Ty) (v : Value) (W : World), Sx.sizeL l ≤ n → n ≤ 1000000 → TyRow W v l →
    Calls Tryz.prog 15 #[v] W fun e W' => e = .returned (.int .i64 (Sx.nodesL l : Nat)) ∧ Below W.heap.size W W' := by
  intro n
  induction n using Nat.strongRecOn with
  | _ n ih =>
    intro l v W hn hn1 hv
    obtain ⟨A, c, rfl, hcap, hl⟩ := hv
    have hlen := Sx.length_size l
    have hnl := Sx.nodesL_size l
    have hli : (l.length : Int) ≤ 1000000 := by omega
    have HL := Lib.hid hl
    have HIH := Lib.hid ih
    clear ih hl
    go_enter Tryz.func15, Tryz.ntmps15
    go_wp2_with fail
    go_loopg [3, 8] (l.length) (fun i u v wr => ∃ (m k : Nat), i = l.length - m ∧ v = .int .i64 (m : Int) ∧ u = .int .i64 (k : Int) ∧ k = Sx.nodesL (l.take m) ∧ m ≤ l.length ∧ Below W.heap.size W wr)
    case atStart => exact ⟨0, 0, rfl, rfl, rfl, rfl, Nat.zero_le _, Below.refl _ _⟩
    case round =>
      obtain ⟨m, k, hi, rfl, rfl, hk, hm, hb⟩ := hrel
      have HI := Lib.hid hi
      have HK := Lib.hid hk
      have HB := Lib.hid hb
      have m0 : (0 : Int) ≤ (m : Int) := by omega
      have k0 : (0 : Int) ≤ (k : Int) := by omega
      have hkb : k ≤ 1000000 := by have := Sx.nodesL_take_le l m; omega
      have hki : (k : Int) ≤ 1000000 := by omega
      clear hi hk hb
      by_cases hlt : m < l.length
      · have hmi : (m : Int) < (l.length : Int) := by omega
        obtain ⟨g, off, v0, v1, v2, v3, v4, rfl, c0, c1, c2, c3, c4, ht⟩ := IsTys.at (IsTys.below HB.out l _ 0 HL.out) m hlt
        obtain ⟨t, hte⟩ : ∃ t, l[m]'hlt = t := ⟨_, rfl⟩
        have hmem : t ∈ l := by rw [← hte]; exact List.getElem_mem hlt
        rw [hte] at ht
        have HSZ := Lib.hid (Sx.parts_mem hmem)
        have HSM := Lib.hid (Sx.size_mem hmem)
        have HT := Lib.hid (Sx.nodes_take hlt)
        have HTE := Lib.hid hte
        obtain ⟨vn, ve, vp, hagg, hsn, hse, hsp⟩ := ht.limbs
        obtain ⟨An, cn, hvn, -⟩ := id hsn
        obtain ⟨Ae, ce, hve, -⟩ := id hse
        obtain ⟨Ap, cp, hvp, -, -⟩ := id hsp
        subst hvn hve hvp
        injection hagg with hagg
        simp only [Array.mk.injEq, List.cons.injEq, and_true] at hagg
        obtain ⟨rfl, rfl, rfl, rfl, rfl⟩ := hagg
        rw [Nat.zero_add] at c0 c1 c2 c3 c4
        have hgl := World.block_lt_of_cell? wr ⟨g, _, none⟩ c0
        simp only at hgl
        have HP := Lib.hid hsp
        have hnp := Sx.nodesL_size t.parts
        obtain ⟨np, hnpe⟩ : ∃ np, Sx.nodesL t.parts = np := ⟨_, rfl⟩
        have hnpi : (np : Int) ≤ 1000000 := by have := HSZ.out; omega
        have hnp0 : (0 : Int) ≤ (np : Int) := by omega
        have hnt := Sx.nodes_parts t
        have HNT := Lib.hid hnt
        have HNP := Lib.hid hnpe
        have hrec : ∀ X, Below wr.heap.size wr X → Calls Tryz.prog 15 #[.slice Ap t.parts.length cp] X fun e X' => e = .returned (.int .i64 (np : Int)) ∧ Below X.heap.size X X' := by
          intro X hX
          have := HIH.out (Sx.sizeL t.parts) (by have := HSZ.out; omega) t.parts _ X (Nat.le_refl _) (by have := HSZ.out; omega) (HP.out.below hX)
          rw [HNP.out] at this
          exact this
        have HREC := Lib.hid hrec
        obtain ⟨kd, hkd⟩ : ∃ kd, t.kind = kd := ⟨_, rfl⟩
        have HKD := Lib.hid hkd
        rw [hkd] at c0
        clear hsn hse hsp ht hnp hnpe hnt hrec hkd hte
        have hbx : Below wr.heap.size wr (wr.alloc (.cells #[.int .i64 kd, .string ⟨t.name.toArray⟩, .slice An t.names.length cn, .slice Ae t.embeds.length ce, .slice Ap t.parts.length cp] 26)) := grown_below (World.grownBy_alloc _ _ _)
        have hrc := HREC.out _ hbx
        by_cases h4 : kd = 4
        · have h4b : (kd != 4) = false := by simp [h4]
          have H4 := Lib.hid h4
          clear h4
          go_wp2_with (go_at_call 15; refine hrc.mono ?_; clear hrc; rintro e W5 ⟨rfl, hb5⟩)
          go_roundg (l.length - (m + 1))
          case measure => have := HI.out; omega
          case rel =>
            refine ⟨m + 1, k + np, rfl, by simp, by simp, ?_, hlt, (HB.out.trans (hbx.mono HB.out.size)).trans (hb5.mono (Nat.le_trans HB.out.size hbx.size))⟩
            rw [HT.out, HTE.out, HNT.out, HKD.out, H4.out, HNP.out, ← HK.out]
            simp
        · have h4b : (kd != 4) = true := by simp [h4]
          have H4 := Lib.hid h4
          clear h4
          go_wp2_with (go_at_call 15; refine hrc.mono ?_; clear hrc; rintro e W5 ⟨rfl, hb5⟩)
          go_roundg (l.length - (m + 1))
          case measure => have := HI.out; omega
          case rel =>
            refine ⟨m + 1, k + 1 + np, rfl, by simp, by simp, ?_, hlt, (HB.out.trans (hbx.mono HB.out.size)).trans (hb5.mono (Nat.le_trans HB.out.size hbx.size))⟩
            rw [HT.out, HTE.out, HNT.out, HKD.out, if_neg H4.out, HNP.out, ← HK.out]
            omega
      · have hmi : ¬ (m : Int) < (l.length : Int) := by omega
        go_wp2_with fail
        go_ret
        refine ⟨?_, HB.out⟩
        rw [HK.out, List.take_of_length_le (by omega)]
        rfl

set_option maxRecDepth 100000 in
set_option maxHeartbeats 4000000 in
theorem synDepth : ∀ (n : Nat) (l : List Sx.Ty) (v : Value) (W : World), Sx.sizeL l ≤ n → n ≤ 1000000 → TyRow W v l →
    Calls Tryz.prog 18 #[v] W fun e W' => e = .returned (.int .i64 (Sx.depthL l : Nat)) ∧ Below W.heap.size W W' := by
  intro n
  induction n using Nat.strongRecOn with
  | _ n ih =>
    intro l v W hn hn1 hv
    obtain ⟨A, c, rfl, hcap, hl⟩ := hv
    have hlen := Sx.length_size l
    have hnl := Sx.depthL_size l
    have hli : (l.length : Int) ≤ 1000000 := by omega
    have HL := Lib.hid hl
    have HIH := Lib.hid ih
    clear ih hl
    go_enter Tryz.func18, Tryz.ntmps18
    go_wp2_with fail
    go_loopg [3, 8] (l.length) (fun i u v wr => ∃ (m k : Nat), i = l.length - m ∧ v = .int .i64 (m : Int) ∧ u = .int .i64 (k : Int) ∧ k = Sx.depthL (l.take m) ∧ m ≤ l.length ∧ Below W.heap.size W wr)
    case atStart => exact ⟨0, 0, rfl, rfl, rfl, rfl, Nat.zero_le _, Below.refl _ _⟩
    case round =>
      obtain ⟨m, k, hi, rfl, rfl, hk, hm, hb⟩ := hrel
      have HI := Lib.hid hi
      have HK := Lib.hid hk
      have HB := Lib.hid hb
      have m0 : (0 : Int) ≤ (m : Int) := by omega
      have k0 : (0 : Int) ≤ (k : Int) := by omega
      have hkb : k ≤ 1000000 := by have := Sx.depthL_take_le l m; omega
      have hki : (k : Int) ≤ 1000000 := by omega
      clear hi hk hb
      by_cases hlt : m < l.length
      · have hmi : (m : Int) < (l.length : Int) := by omega
        obtain ⟨g, off, v0, v1, v2, v3, v4, rfl, c0, c1, c2, c3, c4, ht⟩ := IsTys.at (IsTys.below HB.out l _ 0 HL.out) m hlt
        obtain ⟨t, hte⟩ : ∃ t, l[m]'hlt = t := ⟨_, rfl⟩
        have hmem : t ∈ l := by rw [← hte]; exact List.getElem_mem hlt
        rw [hte] at ht
        have HSZ := Lib.hid (Sx.parts_mem hmem)
        have HSM := Lib.hid (Sx.size_mem hmem)
        have HT := Lib.hid (Sx.depth_take hlt)
        have HTE := Lib.hid hte
        obtain ⟨vn, ve, vp, hagg, hsn, hse, hsp⟩ := ht.limbs
        obtain ⟨An, cn, hvn, -⟩ := id hsn
        obtain ⟨Ae, ce, hve, -⟩ := id hse
        obtain ⟨Ap, cp, hvp, -, -⟩ := id hsp
        subst hvn hve hvp
        injection hagg with hagg
        simp only [Array.mk.injEq, List.cons.injEq, and_true] at hagg
        obtain ⟨rfl, rfl, rfl, rfl, rfl⟩ := hagg
        rw [Nat.zero_add] at c0 c1 c2 c3 c4
        have hgl := World.block_lt_of_cell? wr ⟨g, _, none⟩ c0
        simp only at hgl
        have HP := Lib.hid hsp
        have hnp := Sx.depthL_size t.parts
        obtain ⟨np, hnpe⟩ : ∃ np, Sx.depthL t.parts = np := ⟨_, rfl⟩
        have hnpi : (np : Int) ≤ 1000000 := by have := HSZ.out; omega
        have hnp0 : (0 : Int) ≤ (np : Int) := by omega
        have hnt := Sx.depth_parts t
        have HNT := Lib.hid hnt
        have HNP := Lib.hid hnpe
        have hrec : ∀ X, Below wr.heap.size wr X → Calls Tryz.prog 18 #[.slice Ap t.parts.length cp] X fun e X' => e = .returned (.int .i64 (np : Int)) ∧ Below X.heap.size X X' := by
          intro X hX
          have := HIH.out (Sx.sizeL t.parts) (by have := HSZ.out; omega) t.parts _ X (Nat.le_refl _) (by have := HSZ.out; omega) (HP.out.below hX)
          rw [HNP.out] at this
          exact this
        have HREC := Lib.hid hrec
        obtain ⟨kd, hkd⟩ : ∃ kd, t.kind = kd := ⟨_, rfl⟩
        have HKD := Lib.hid hkd
        rw [hkd] at c0
        clear hsn hse hsp ht hnp hnpe hnt hrec hkd hte
        have hbx : Below wr.heap.size wr (wr.alloc (.cells #[.int .i64 kd, .string ⟨t.name.toArray⟩, .slice An t.names.length cn, .slice Ae t.embeds.length ce, .slice Ap t.parts.length cp] 26)) := grown_below (World.grownBy_alloc _ _ _)
        have hrc := HREC.out _ hbx
        have hmx : max (k : Int) (1 + (np : Int)) = ((max k (1 + np) : Nat) : Int) := by omega
        have HMX := Lib.hid hmx
        clear hmx
        go_wp2_with (go_at_call 18; refine hrc.mono ?_; clear hrc; rintro e W5 ⟨rfl, hb5⟩)
        go_roundg (l.length - (m + 1))
        case measure => have := HI.out; omega
        case rel =>
          refine ⟨m + 1, max k (1 + np), rfl, by simp, ?_, ?_, hlt, (HB.out.trans (hbx.mono HB.out.size)).trans (hb5.mono (Nat.le_trans HB.out.size hbx.size))⟩
          · rw [HMX.out]
          · rw [HT.out, HTE.out, HNT.out, HNP.out, ← HK.out]
      · have hmi : ¬ (m : Int) < (l.length : Int) := by omega
        go_wp2_with fail
        go_ret
        refine ⟨?_, HB.out⟩
        rw [HK.out, List.take_of_length_le (by omega)]
        rfl

end Go.Proofs.YtdncljdfmdgdaaaGreatDoor

namespace Go.Proofs.YtdncljdfmdgdaaaGreatDoor
open Go.RowKit Go.Shelf
set_option linter.unusedSimpArgs false
set_option linter.unusedVariables false

theorem ownNew (w : World) (base : Nat) (c : UInt8) (hb : base ≤ w.heap.size) : OwnB (w.alloc (.cells #[.int .u8 (c.toNat : Int)] 5)) base (.slice (some ⟨w.heap.size, 0, none⟩) 1 1) [c] :=
  ⟨rfl, .inr ⟨w.heap.size, 1, #[.int .u8 (c.toNat : Int)], rfl, hb, heap_alloc_new w _, Nat.le_refl _, by unfold maxLen; omega, rfl, rfl⟩⟩

theorem LW.trans {w W X : World} (h : LW w W) (h' : LW W X) : LW w X := ⟨h.b.trans (h'.b.mono h.b.size), h'.g, h'.n⟩
theorem LW.self {w W : World} (h : LW w W) : LW W W := LW.refl h.g h.n
/-- A text that is cut without a fault. -/
theorem lwTokensOk {w W : World} (h : LW w W) (s : ByteArray) (hs : s.size ≤ 140737488351232) {ts : List Lx.Tok} (hT : Lx.toks s.data.toList = (ts, none)) :
    Calls Tryz.prog 47 #[.string s] W fun e W' => ∃ v, e = .returned (.tuple #[v, .nilIface]) ∧ LW w W' ∧ ToksIn W' v ts := by
  refine (lwTokens h s hs).mono ?_
  rw [hT]
  rintro e W' ⟨h1, h2, h3, v, rfl, hr⟩
  exact ⟨v, rfl, h1, row_toks (w' := W') hr⟩
/-- .. with a fault. -/
theorem lwTokensBad {w W : World} (h : LW w W) (s : ByteArray) (hs : s.size ≤ 140737488351232) {ts : List Lx.Tok} {y x : Nat} (hT : Lx.toks s.data.toList = (ts, some (y, x))) :
    Calls Tryz.prog 47 #[.string s] W fun e W' => ∃ g, e = .returned (.tuple #[.slice none 0 0, .iface 130 (.pointer (some ⟨g, 0, none⟩))]) ∧ LW w W' ∧ IsRef W' g x y := by
  refine (lwTokens h s hs).mono ?_
  rw [hT]
  rintro e W' ⟨h1, h2, h3, g, rfl, hr, _⟩
  exact ⟨g, rfl, h1, hr⟩

end Go.Proofs.YtdncljdfmdgdaaaGreatDoor

namespace Go.Proofs.YtdncljdfmdgdaaaGreatDoor
open Go.RowKit Go.Shelf
set_option linter.unusedSimpArgs false
set_option linter.unusedVariables false


theorem lawWithin (n lo hi : Int) (k : Nat) (hk : hi - lo + 1 = (k : Int)) (hk0 : 0 < k) (hk1 : k ≤ 100000) (hl0 : -100000 ≤ lo) (hl1 : lo ≤ 100000) (hn0 : -9223372036854775808 ≤ n) (hn1 : n ≤ 9223372036854775807) (w : World) :
    Calls Tryz.prog 41 #[.int .i64 n, .int .i64 lo, .int .i64 hi] w fun e w' => ∃ r : Int, e = .returned (.int .i64 (lo + r)) ∧ 0 ≤ r ∧ r < k ∧ w' = w := by
  obtain ⟨q, hq⟩ : ∃ q, n.tmod (k : Int) = q := ⟨_, rfl⟩
  have hq1 : q < (k : Int) := by rw [← hq]; exact Int.tmod_lt_of_pos n (by omega)
  have hq0 : -(k : Int) < q := by
    rw [← hq]
    have := Int.tmod_lt_of_pos (-n) (show (0 : Int) < (k : Int) by omega)
    rw [Int.neg_tmod] at this
    omega
  have hk2 : (1 : Int) ≤ (k : Int) := by omega
  have hk3 : (k : Int) ≤ 100000 := by omega
  have hkz : ¬ (k : Int) = 0 := by omega
  have hh0 : -100000 ≤ hi := by omega
  have hh1 : hi ≤ 200000 := by omega
  by_cases hneg : q < 0
  · go_enter Tryz.func41, Tryz.ntmps41
    go_wp2
    go_ret
    exact ⟨q + hi - lo + 1, rfl, by omega, by omega, rfl⟩
  · go_enter Tryz.func41, Tryz.ntmps41
    go_wp2
    go_ret
    exact ⟨q, rfl, by omega, by omega, rfl⟩

end Go.Proofs.YtdncljdfmdgdaaaGreatDoor
