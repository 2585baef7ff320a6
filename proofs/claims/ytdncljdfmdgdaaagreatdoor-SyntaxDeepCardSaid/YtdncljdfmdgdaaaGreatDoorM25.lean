/-
  The walk of coilref2.Names.
  coilbook.Same at texts; the two lists of words.
  coilbook.Same at rows of texts.
  coilkeep.Texts.
  coilkeep.bools.
  The walks of coilkeep.Type, Types.
  slices.Equal at texts.
-/
import Derived.Test.YtdncljdfmdgdaaaGreatDoorM24
import Derived.Test.YtdncljdfmdgdaaaGreatDoorM10
import Derived.Test.YtdncljdfmdgdaaaGreatDoorM6
import Derived.Test.YtdncljdfmdgdaaaGreatDoorM18
namespace Go.Proofs.YtdncljdfmdgdaaaGreatDoor
open Go.RowKit Go.Shelf
set_option linter.unusedSimpArgs false
set_option linter.unusedVariables false

theorem contains_take {l : List Lx.Bytes} {m : Nat} (h : m < l.length) (s : Lx.Bytes) : (l.take (m + 1)).contains s = ((l.take m).contains s || l[m] == s) := by
  rw [List.take_succ_eq_append_getElem h, Bool.eq_iff_iff]
  simp only [List.contains_iff_mem, List.mem_append, List.mem_singleton, Bool.or_eq_true, beq_iff_eq]
  constructor
  · rintro (h | rfl)
    · exact .inl h
    · exact .inr rfl
  · rintro (h | h)
    · exact .inl h
    · exact .inr h.symm

theorem own_slice {w : World} {base : Nat} {e : TypeId} {size : Nat} {v : Value} {n : Nat} {xs : List Value} (h : w.ownsRow base e size v n xs) : ∃ A c, v = .slice A n c := by
  rcases h.2 with ⟨rfl, h0⟩ | ⟨g, cap, cur, rfl, _⟩
  · exact ⟨none, 0, by rw [h0]⟩
  · exact ⟨_, cap, rfl⟩
theorem World.ownsRow.drewN2 {w : World} {base : Nat} {e : TypeId} {size : Nat} {v : Value} {n : Nat} {xs : List Value} (h : w.ownsRow base e size v n xs) (N : Nat) : (w.drewN N).ownsRow base e size v n xs := h
theorem Keep.drewN2 (w : World) (N : Nat) : Keep w (w.drewN N) := fun _ _ _ _ h _ _ => h

set_option maxRecDepth 100000 in
set_option maxHeartbeats 8000000 in
theorem refNamesGo (W0 : World) : ∀ (n : Nat) (t : Sx.Ty), Sx.size t ≤ n → n ≤ 1000000 → ∀ (v u : Value) (l : List Lx.Bytes) (w : World), IsTy W0 v t → Below W0.heap.size W0 w → OwnS w W0.heap.size u l → l.length + Sx.size t ≤ 2000000 →
    Calls Tryz.prog 44 #[u, v] w fun e w' => ∃ u', e = .returned u' ∧ OwnS w' W0.heap.size u' (Sx.once l (Sx.allNames t)) ∧ Below W0.heap.size W0 w' ∧ Keep w w' := by
  intro n
  induction n with
  | zero => intro t h; have := Sx.size_pos t; omega
  | succ n ih =>
    intro t hn hn1 v u l w ht hb hu hlen
    obtain ⟨An, cn, Ae, ce, Ap, cp, rfl, -, -, hp⟩ := ht.agg
    obtain ⟨A, c, rfl⟩ := hu.slice
    have hsp := Sx.size_parts t
    have hls := Sx.length_size t.parts
    have hfp := Sx.names_parts t
    obtain ⟨kd, hkd⟩ : ∃ kd, t.kind = kd := ⟨_, rfl⟩
    obtain ⟨nm, hnm⟩ : ∃ kd, t.name = kd := ⟨_, rfl⟩
    obtain ⟨k, hk⟩ : ∃ k, t.parts.length = k := ⟨_, rfl⟩
    obtain ⟨q, hq⟩ : ∃ q, l.length = q := ⟨_, rfl⟩
    rw [hk] at hp
    rw [hkd, hk, hnm, hq]
    rw [hkd, hnm] at hfp
    have k0 : (0 : Int) ≤ (k : Int) := by omega
    have k1 : (k : Int) ≤ 1000000 := by omega
    have q0 : (0 : Int) ≤ (q : Int) := by omega
    have q1 : (q : Int) ≤ 2000000 := by omega
    obtain ⟨L, hL⟩ : ∃ L, w.heap.size = L := ⟨_, rfl⟩
    obtain ⟨B, hB⟩ : ∃ B, W0.heap.size = B := ⟨_, rfl⟩
    rw [hB] at hb hu ⊢
    have hBL : B ≤ L := by rw [← hL, ← hB]; have := hb.size; omega
    obtain ⟨w2, hw2⟩ : ∃ w2, w.alloc (.cells #[.int .i64 kd, .string ⟨nm.toArray⟩, .slice An t.names.length cn, .slice Ae t.embeds.length ce, .slice Ap k cp] 26) = w2 := ⟨_, rfl⟩
    have hbox : w2.heap[L]? = some (.cells #[.int .i64 kd, .string ⟨nm.toArray⟩, .slice An t.names.length cn, .slice Ae t.embeds.length ce, .slice Ap k cp] 26 (0, 0)) := by rw [← hw2, ← hL]; exact heap_alloc_new w _
    have hg2 : w.grownBy w2 none := by rw [← hw2]; exact World.grownBy_alloc w _ none
    have hb2 : Below B W0 w2 := hb.trans ((grown_below hg2).mono (by omega))
    have hkp2 : Keep w w2 := Keep.grown hg2 (fun j e => nomatch e)
    have hu2 : OwnS w2 B (.slice A q c) l := by rw [hq] at hu; exact World.ownsRow.kept hu hg2 (by cases (Value.slice A q c).ownBlock <;> simp)
    obtain ⟨x0, x1, x2, x3, x4⟩ := five_cells hbox
    have hl2 := lt_of_block hbox
    obtain ⟨l1, hl1⟩ : ∃ l1, Sx.once l (if kd = 4 then [nm] else []) = l1 := ⟨_, rfl⟩
    have hl1n : l1.length ≤ q + 1 := by
      have := Sx.once_len (if kd = 4 then [nm] else []) l
      rw [← hl1, ← hq]
      split at this <;> simp at this ⊢ <;> (try split) <;> simp_all <;> omega
    have hres : Sx.once l (Sx.allNames t) = Sx.once l1 (Sx.allNamesL t.parts) := by rw [hfp, Sx.once_append, hl1]
    have HRES := Lib.hid hres
    have HL1 := Lib.hid hl1
    have HIH := Lib.hid ih
    have HSP := Lib.hid hsp
    have HN := Lib.hid (show Sx.size t ≤ n + 1 ∧ n + 1 ≤ 1000000 from ⟨hn, hn1⟩)
    have HLN := Lib.hid hlen
    have HP := Lib.hid hp
    have HK := Lib.hid hk
    have HQ := Lib.hid hq
    have HL := Lib.hid hL
    have HB := Lib.hid hB
    have HBX := Lib.hid hbox
    have HB2 := Lib.hid hb2
    have HKP := Lib.hid hkp2
    have HU := Lib.hid hu2
    have HN1 := Lib.hid hl1n
    clear hres hl1 ih hsp hn hn1 hlen hp hk hq hbox hb2 hkp2 hu2 hu hb hg2 hls hfp hkd hnm ht hl1n
    go_enter Tryz.func44, Tryz.ntmps44
    go_upto_if 10 with (fail)
    go_cut [0] (fun v wx => ∃ A1 c1, v = .slice A1 l1.length c1 ∧ OwnS wx B (.slice A1 l1.length c1) l1 ∧ Below B W0 wx ∧ Keep w2 wx)
    case first =>
      by_cases h4 : kd = 4
      · subst h4
        go_wp2_with fail
        go_loopg [5, 6] q (fun i v5 v6 wr => ∃ (m : Nat), i = q - m ∧ v5 = .bool ((l.take m).contains nm) ∧ v6 = .int .i64 (m : Nat) ∧ m ≤ q ∧ ∃ N, wr = w2.drewN N)
        case atStart => exact ⟨0, rfl, by simp, rfl, Nat.zero_le _, 0, rfl⟩
        case round =>
          obtain ⟨m, hi, rfl, rfl, hm, N, rfl⟩ := hrel
          have HI := Lib.hid hi
          have m0 : (0 : Int) ≤ (m : Int) := by omega
          clear hi
          by_cases hlt : m < q
          · have hmi : (m : Int) < (q : Int) := by omega
            have hml : m < l.length := by have := HQ.out; omega
            obtain ⟨g, off, rfl, hgl, t0⟩ := (OwnS.row HU.out).cellAt (Below.refl _ _) m hml
            have HC := Lib.hid (contains_take hml nm)
            obtain ⟨s, hs⟩ : ∃ s, l[m]'hml = s := ⟨_, rfl⟩
            rw [hs] at t0 HC
            clear hs
            obtain ⟨b, hbq⟩ : ∃ b, (l.take m).contains nm = b := ⟨_, rfl⟩
            rw [hbq] at HC ⊢
            clear hbq
            cases b with
            | true =>
              go_wp2_with fail
              go_quiet (fail)
              go_wp2_with fail
              go_roundg (q - (m + 1))
              case measure => have := HI.out; omega
              case rel => exact ⟨m + 1, rfl, by rw [HC.out]; simp, by simp, hlt, N + nq, rfl⟩
            | false =>
              obtain ⟨b2, hb2⟩ : ∃ b, (s == nm) = b := ⟨_, rfl⟩
              have hbb : (s.toArray.toList == nm.toArray.toList) = b2 := by simpa using hb2
              go_wp2_with fail
              go_quiet (fail)
              go_wp2_with fail
              go_roundg (q - (m + 1))
              case measure => have := HI.out; omega
              case rel => exact ⟨m + 1, rfl, by rw [HC.out]; simp [hb2], by simp, hlt, N + nq, rfl⟩
          · have hmi : ¬ (m : Int) < (q : Int) := by omega
            have hfu : (l.take m).contains nm = l.contains nm := by rw [List.take_of_length_le (by have := HQ.out; omega)]
            rw [hfu]
            cases hc : l.contains nm with
            | true =>
              have hll : l1 = l := by rw [← HL1.out]; simp only [if_true, Sx.once, hc]
              have HLL := Lib.hid hll
              have HLQ := Lib.hid (show l1.length = q by rw [hll]; exact HQ.out)
              clear hll hc hfu
              go_wp2_with fail
              go_meet
              rw [HLQ.out]
              exact ⟨A, c, rfl, by rw [HLL.out]; exact World.ownsRow.drewN2 HU.out N, Below.drewN HB2.out N, Keep.drewN2 w2 N⟩
            | false =>
              have hll : l1 = l ++ [nm] := by rw [← HL1.out]; simp only [if_true, Sx.once, hc, Bool.false_eq_true, if_false]
              have HLL := Lib.hid hll
              have HLQ := Lib.hid (show l1.length = q + 1 by rw [hll, List.length_append, HQ.out]; rfl)
              clear hll hc hfu
              obtain ⟨i0, hi, hz0, hz1, hz2⟩ := info_parts infoStr
              obtain ⟨w3, hw3⟩ : ∃ w3, w2.drewN N = w3 := ⟨_, rfl⟩
              have ho3 : w3.ownsRow B 9 1 (.slice A q c) q (strsV l) := by rw [← hw3, ← HQ.out]; have := HU.out; rw [← HQ.out] at this; exact World.ownsRow.drewN2 this N
              have hb3 : Below B W0 w3 := by rw [← hw3]; exact Below.drewN HB2.out N
              have hk3 : Keep w2 w3 := by rw [← hw3]; exact Keep.drewN2 w2 N
              rw [hw3]
              have hBs := hb3.size
              have hbx3 := HBX.out
              rw [show w2.heap = w3.heap by rw [← hw3]; rfl] at hbx3
              clear x0 x1 x2 x3 x4
              obtain ⟨x0, x1, x2, x3, x4⟩ := five_cells hbx3
              have hl3 := lt_of_block hbx3
              clear hbx3 hw3
              have HO3 := Lib.hid ho3
              have HB3 := Lib.hid hb3
              have HK3 := Lib.hid hk3
              clear ho3 hb3 hk3
              go_wp2_with (at_builtin; (refine wpList_append_own _ rfl _ _ 22 rfl B 9 i0 _ 1 16 Tryz.underlying22 hi hz0 hz1 hz2 rfl (by decide) (.slice A q c) q (strsV l) rfl (World.ownsRow.alloc HO3.out _) ⟨w3.heap.size, 0, none⟩ 1 1 [.string ⟨nm.toArray⟩] rfl rfl (cell_one_new _ _ _) (by simp [Value.oneCell']) (by unfold maxLen; omega) (by omega) (by simp; omega) ?_; intro v' w4 hown' hgrow' _; obtain ⟨A4, c4, rfl⟩ := own_slice hown'))
              go_meet
              rw [HLQ.out]
              have hg4 : w3.grownBy w4 (Value.slice A q c).ownBlock := (World.grownBy_alloc w3 _ _).trans hgrow'
              refine ⟨A4, c4, rfl, ?_, HB3.out.grown hg4 (by rw [← HB.out]; exact hBs) (fun j e => (row_kind HO3.out j e).1), HK3.out.trans (Keep.grown hg4 ?_)⟩
              · unfold OwnS
                rw [HLQ.out, HLL.out]
                unfold strsV
                rw [List.map_append]
                exact hown'
              · intro j e cs t fr hj
                obtain ⟨_, c, h2⟩ := row_kind HO3.out j e
                rw [h2] at hj
                injection hj with hj
                injection hj with _ hj
                exact .inl hj.symm
      · have b4 : (kd == 4) = false := by rw [beq_eq_false_iff_ne]; exact h4
        have hll : l1 = l := by rw [← HL1.out, if_neg h4, Sx.once]
        have HLL := Lib.hid hll
        have HLQ := Lib.hid (show l1.length = q by rw [hll]; exact HQ.out)
        clear hll h4
        go_wp2_with fail
        go_meet
        rw [HLQ.out]
        exact ⟨A, c, rfl, by rw [HLL.out]; exact HU.out, HB2.out, Keep.refl _⟩
    case rest =>
      obtain ⟨A1, c1, rfl, ho1, hb1, hk1⟩ := hcut
      have HO1 := Lib.hid ho1
      have HB1 := Lib.hid hb1
      have HK1 := Lib.hid hk1
      clear ho1 hb1 hk1 x0 x1 x2 x3 x4
      go_wp2_with fail
      go_loopg [0, 7] k (fun i v0 v7 wr => ∃ (m : Nat) (A5 : Option Addr) (n5 c5 : Nat), i = k - m ∧ v0 = .slice A5 n5 c5 ∧ v7 = .int .i64 (m : Nat) ∧ m ≤ k ∧ OwnS wr B (.slice A5 n5 c5) (Sx.once l1 (Sx.allNamesL (t.parts.take m))) ∧ Below B W0 wr ∧ Keep w2 wr)
      case atStart => exact ⟨0, A1, l1.length, c1, rfl, rfl, rfl, Nat.zero_le _, by simpa [Sx.allNamesL, Sx.once] using HO1.out, HB1.out, HK1.out⟩
      case round =>
        obtain ⟨m, A5, n5, c5, hi, rfl, rfl, hm, ho, hb, hkp⟩ := hrel
        have hbr := hkp _ _ _ _ HBX.out (by decide) (by decide)
        obtain ⟨x0, x1, x2, x3, x4⟩ := five_cells hbr
        have hlr := lt_of_block hbr
        have HI := Lib.hid hi
        have HO := Lib.hid ho
        have HBW := Lib.hid hb
        have HKW := Lib.hid hkp
        have m0 : (0 : Int) ≤ (m : Int) := by omega
        clear hi ho hb hkp hbr
        by_cases hlt : m < k
        · have hmi : (m : Int) < (k : Int) := by omega
          have hmp : m < t.parts.length := by have := HK.out; omega
          obtain ⟨g, off, An1, cn1, Ae1, ce1, Aq, cq, rfl, hty, hc5⟩ := HP.out.spot m hmp
          rw [HB.out] at hc5
          obtain ⟨hg, c0, c1', c2, c3, c4⟩ := hc5 wr HBW.out
          have hsm := Sx.size_mem (List.getElem_mem hmp)
          have hst := Sx.names_take hmp
          have hll := Sx.once_len (Sx.allNamesL (t.parts.take m)) l1
          have hl2 := Sx.namesL_size (t.parts.take m)
          have hl3 := Sx.size_take hmp
          have hl4 := Sx.sizeL_take_le t.parts (m + 1)
          obtain ⟨p, hpe⟩ : ∃ p, t.parts[m]'hmp = p := ⟨_, rfl⟩
          rw [hpe] at c0 c1' c2 c3 c4 hty hst hsm hl3
          have hre := HIH.out p (by have := HN.out; have := HSP.out; omega) (by have := HN.out; omega) _ (.slice A5 n5 c5) (Sx.once l1 (Sx.allNamesL (t.parts.take m))) wr hty (by rw [HB.out]; exact HBW.out) (by rw [HB.out]; exact HO.out) (by have := HLN.out; have := HQ.out; have := HN1.out; have := HSP.out; omega)
          have HRE := Lib.hid hre
          have HST := Lib.hid hst
          clear hre hst hsm hpe hty hc5 hll hl2 hl3 hl4
          go_wp2_with fail
          refine HRE.out.mono ?_
          rintro e w5 ⟨u5, rfl, ho5, hb5, hk5⟩
          obtain ⟨A6, c6, rfl⟩ := ho5.slice
          have HO5 := Lib.hid ho5
          clear ho5
          go_wp2_with fail
          go_roundg (k - (m + 1))
          case measure => have := HI.out; omega
          case rel => exact ⟨m + 1, A6, _, c6, rfl, rfl, by simp, hlt, by rw [HST.out, Sx.once_append, ← HB.out]; exact HO5.out, by rw [← HB.out]; exact hb5, HKW.out.trans hk5⟩
        · have hmi : ¬ (m : Int) < (k : Int) := by omega
          have HFU := Lib.hid (List.take_of_length_le (show t.parts.length ≤ m by have := HK.out; omega))
          go_wp2_with fail
          go_ret
          refine ⟨_, rfl, ?_, HBW.out, HKP.out.trans HKW.out⟩
          have h9 := HO.out
          rw [HFU.out] at h9
          rw [HRES.out]
          exact h9

end Go.Proofs.YtdncljdfmdgdaaaGreatDoor

namespace Go.Proofs.YtdncljdfmdgdaaaGreatDoor
open Go.RowKit Go.Shelf
set_option linter.unusedSimpArgs false
set_option linter.unusedVariables false

/-- A row of texts, read from its block's head. -/
def StrsIn (w : World) (v : Value) (l : List Lx.Bytes) : Prop :=
  ∃ g c cur fr, v = .slice (some ⟨g, 0, none⟩) l.length c ∧ w.heap[g]? = some (.cells cur 9 fr) ∧ cur.toList.take l.length = l.map (fun s => Value.string ⟨s.toArray⟩)
theorem StrsIn.below {w w' : World} {v : Value} {ts : List Lx.Bytes} (h : StrsIn w v ts) (hb : Below w.heap.size w w') : StrsIn w' v ts := by
  obtain ⟨g, c, cur, fr, h1, h2, h3⟩ := h
  exact ⟨g, c, cur, fr, h1, (hb.block g (lt_of_block h2)).trans h2, h3⟩
theorem strs_at {w : World} {ts : List Lx.Bytes} {g m : Nat} {cur : Array Value} {fr : Nat × Nat} (hg : w.heap[g]? = some (.cells cur 9 fr)) (hc : cur.toList.take ts.length = ts.map (fun s => Value.string ⟨s.toArray⟩)) (h : m < ts.length) :
    w.cell? ⟨g, m, none⟩ = some (.string ⟨(ts[m]'h).toArray⟩) := by
  rw [cell_of hg, ← Array.getElem?_toList, ← List.getElem?_take_of_lt (l := cur.toList) h, hc, List.getElem?_map, List.getElem?_eq_getElem h]
  rfl
theorem refWords (w : World) : Calls Tryz.prog 192 #[] w fun e w' =>
    e = .returned (.slice (some ⟨w.heap.size, 0, none⟩) 25 25) ∧ w' = w.alloc (.cells wordCells 9) := by
  go_enter Tryz.func192, Tryz.ntmps192
  go_wp2
  go_ret
  exact ⟨rfl, rfl⟩
theorem strsWords (w : World) : StrsIn (w.alloc (.cells wordCells 9)) (.slice (some ⟨w.heap.size, 0, none⟩) 25 25) Lx.words :=
  ⟨w.heap.size, 25, wordCells, (0, 0), rfl, heap_alloc_new w _, rfl⟩

set_option maxHeartbeats 4000000 in
theorem lawSameStr (ts us : List Lx.Bytes) (v u : Value) (w : World) (hv : StrsIn w v ts) (hu : StrsIn w u us) (hl : ts.length ≤ 1000000000) (hl2 : us.length ≤ 1000000000) :
    Calls Tryz.prog 16 #[v, u] w fun e w' => e = .returned (.bool (decide (ts = us))) ∧ Below w.heap.size w w' := by
  obtain ⟨g, c0, cur, fr, rfl, hgb, hcur⟩ := hv
  obtain ⟨g2, d0, cur2, fr2, rfl, hgb2, hcur2⟩ := hu
  have HA := Lib.hid hgb
  have HB := Lib.hid hgb2
  have HC := Lib.hid hcur
  have HD := Lib.hid hcur2
  clear hgb hgb2 hcur hcur2
  by_cases hlen : ts.length = us.length
  · have hb : ((ts.length : Int) != (us.length : Int)) = false := by simp [hlen]
    have HL := Lib.hid hlen
    clear hlen
    go_enter Tryz.func16, Tryz.ntmps16
    go_wp2
    go_loopg [5] (ts.length) (fun n v wr => ∃ (m : Nat), n = ts.length - m ∧ v = .int .i64 (m : Int) ∧ m ≤ ts.length ∧ ts.take m = us.take m ∧ Below w.heap.size w wr)
    case atStart => exact ⟨0, rfl, rfl, Nat.zero_le _, by simp, Below.refl _ _⟩
    case round =>
      obtain ⟨m, hn, rfl, hm, he, hbl⟩ := hrel
      have HN := Lib.hid hn
      have HE := Lib.hid he
      clear hn he
      by_cases hlt : m < ts.length
      · have hlt2 : m < us.length := by rw [← HL.out]; exact hlt
        have hi : (m : Int) < (ts.length : Int) := by omega
        have hi2 : (m : Int) < (us.length : Int) := by omega
        have hi0 : (0 : Int) ≤ (m : Int) := by omega
        have hmi : (m : Int) ≤ 1000000000 := by omega
        have hgb' := (hbl.block g (lt_of_block HA.out)).trans HA.out
        have hgb2' := (hbl.block g2 (lt_of_block HB.out)).trans HB.out
        have t0 := strs_at hgb' HC.out hlt
        have u0 := strs_at hgb2' HD.out hlt2
        have hgl := lt_of_block hgb'
        have hgl2 := lt_of_block hgb2'
        obtain ⟨t, ht⟩ : ∃ t, ts[m]'hlt = t := ⟨_, rfl⟩
        obtain ⟨x, hx⟩ : ∃ x, us[m]'hlt2 = x := ⟨_, rfl⟩
        rw [ht] at t0
        rw [hx] at u0
        have HT := Lib.hid ht
        have HX := Lib.hid hx
        clear ht hx hgb' hgb2'
        cases hq : (t == x) with
        | true =>
          have htx : t = x := by simpa using hq
          have HS := Lib.hid (take_step HE.out hlt hlt2 (by rw [HT.out, HX.out, htx]))
          clear htx
          go_wp2
          go_quiet (fail)
          go_wp2
          go_roundg (ts.length - (m + 1))
          case measure => have := HN.out; omega
          case rel => exact ⟨m + 1, rfl, by simp, hlt, HS.out, Below.drewN hbl _⟩
        | false =>
          have htx : t ≠ x := by simpa using hq
          have HS := Lib.hid (show decide (ts = us) = false by
            rw [decide_eq_false_iff_not]
            rintro rfl
            exact htx (HT.out.symm.trans HX.out))
          clear htx
          go_wp2
          go_quiet (fail)
          go_wp2
          go_ret
          rw [HS.out]
          exact ⟨rfl, Below.drewN hbl _⟩
      · have hi : ¬ (m : Int) < (ts.length : Int) := by omega
        have HS := Lib.hid (show decide (ts = us) = true by
          rw [decide_eq_true_eq]
          have h1 := HE.out
          rwa [List.take_of_length_le (by omega), List.take_of_length_le (by have := HL.out; omega)] at h1)
        go_wp2
        go_ret
        rw [HS.out]
        exact ⟨rfl, hbl⟩
  · have hb : ((ts.length : Int) != (us.length : Int)) = true := by simp; omega
    have HS := Lib.hid (show decide (ts = us) = false by
      rw [decide_eq_false_iff_not]
      rintro rfl
      exact hlen rfl)
    clear hlen
    go_enter Tryz.func16, Tryz.ntmps16
    go_wp2
    go_ret
    rw [HS.out]
    exact ⟨rfl, Below.refl _ _⟩

end Go.Proofs.YtdncljdfmdgdaaaGreatDoor

namespace Go.Proofs.YtdncljdfmdgdaaaGreatDoor
open Go.RowKit Go.Shelf
set_option linter.unusedSimpArgs false
set_option linter.unusedVariables false

set_option maxHeartbeats 4000000 in
theorem synSameStr (ts us : List Lx.Bytes) (v u : Value) (w : World) (hv : StrRow w v ts) (hu : StrRow w u us) (hl : ts.length ≤ 1000000000) (hl2 : us.length ≤ 1000000000) :
    Calls Tryz.prog 16 #[v, u] w fun e w' => e = .returned (.bool (decide (ts = us))) ∧ Below w.heap.size w w' := by
  obtain ⟨A1, c1, rfl, hv'⟩ := hv
  obtain ⟨A2, c2, rfl, hu'⟩ := hu
  have HA := Lib.hid (show StrRow w (.slice A1 ts.length c1) ts from ⟨A1, c1, rfl, hv'⟩)
  have HB := Lib.hid (show StrRow w (.slice A2 us.length c2) us from ⟨A2, c2, rfl, hu'⟩)
  clear hv' hu'
  by_cases hlen : ts.length = us.length
  · have hb : ((ts.length : Int) != (us.length : Int)) = false := by simp [hlen]
    have HL := Lib.hid hlen
    clear hlen
    go_enter Tryz.func16, Tryz.ntmps16
    go_wp2
    go_loopg [5] (ts.length) (fun n v wr => ∃ (m : Nat), n = ts.length - m ∧ v = .int .i64 (m : Int) ∧ m ≤ ts.length ∧ ts.take m = us.take m ∧ Below w.heap.size w wr)
    case atStart => exact ⟨0, rfl, rfl, Nat.zero_le _, by simp, Below.refl _ _⟩
    case round =>
      obtain ⟨m, hn, rfl, hm, he, hbl⟩ := hrel
      have HN := Lib.hid hn
      have HE := Lib.hid he
      clear hn he
      by_cases hlt : m < ts.length
      · have hlt2 : m < us.length := by rw [← HL.out]; exact hlt
        have hi : (m : Int) < (ts.length : Int) := by omega
        have hi2 : (m : Int) < (us.length : Int) := by omega
        have hi0 : (0 : Int) ≤ (m : Int) := by omega
        have hmi : (m : Int) ≤ 1000000000 := by omega
        obtain ⟨g, off, rfl, hgl, t0⟩ := HA.out.cellAt hbl m hlt
        obtain ⟨g2, off2, rfl, hgl2, u0⟩ := HB.out.cellAt hbl m hlt2
        obtain ⟨t, ht⟩ : ∃ t, ts[m]'hlt = t := ⟨_, rfl⟩
        obtain ⟨x, hx⟩ : ∃ x, us[m]'hlt2 = x := ⟨_, rfl⟩
        rw [ht] at t0
        rw [hx] at u0
        have HT := Lib.hid ht
        have HX := Lib.hid hx
        clear ht hx
        cases hq : (t == x) with
        | true =>
          have htx : t = x := by simpa using hq
          have HS := Lib.hid (take_step HE.out hlt hlt2 (by rw [HT.out, HX.out, htx]))
          clear htx
          go_wp2
          go_quiet (fail)
          go_wp2
          go_roundg (ts.length - (m + 1))
          case measure => have := HN.out; omega
          case rel => exact ⟨m + 1, rfl, by simp, hlt, HS.out, Below.drewN hbl _⟩
        | false =>
          have htx : t ≠ x := by simpa using hq
          have HS := Lib.hid (show decide (ts = us) = false by
            rw [decide_eq_false_iff_not]
            rintro rfl
            exact htx (HT.out.symm.trans HX.out))
          clear htx
          go_wp2
          go_quiet (fail)
          go_wp2
          go_ret
          rw [HS.out]
          exact ⟨rfl, Below.drewN hbl _⟩
      · have hi : ¬ (m : Int) < (ts.length : Int) := by omega
        have HS := Lib.hid (show decide (ts = us) = true by
          rw [decide_eq_true_eq]
          have h1 := HE.out
          rwa [List.take_of_length_le (by omega), List.take_of_length_le (by have := HL.out; omega)] at h1)
        go_wp2
        go_ret
        rw [HS.out]
        exact ⟨rfl, hbl⟩
  · have hb : ((ts.length : Int) != (us.length : Int)) = true := by simp; omega
    have HS := Lib.hid (show decide (ts = us) = false by
      rw [decide_eq_false_iff_not]
      rintro rfl
      exact hlen rfl)
    clear hlen
    go_enter Tryz.func16, Tryz.ntmps16
    go_wp2
    go_ret
    rw [HS.out]
    exact ⟨rfl, Below.refl _ _⟩


end Go.Proofs.YtdncljdfmdgdaaaGreatDoor

namespace Go.Proofs.YtdncljdfmdgdaaaGreatDoor
open Go.RowKit Go.Shelf
set_option linter.unusedSimpArgs false
set_option linter.unusedVariables false

set_option maxHeartbeats 4000000 in
theorem keepTexts (ts us : List Lx.Bytes) (v u : Value) (w : World) (hv : StrRow w v ts) (hu : StrRow w u us) (hl : ts.length ≤ 1000000000) (hl2 : us.length ≤ 1000000000) :
    Calls Tryz.prog 46 #[v, u] w fun e w' => e = .returned (.bool (decide (ts = us))) ∧ Below w.heap.size w w' := by
  obtain ⟨A1, c1, rfl, hv'⟩ := hv
  obtain ⟨A2, c2, rfl, hu'⟩ := hu
  have HA := Lib.hid (show StrRow w (.slice A1 ts.length c1) ts from ⟨A1, c1, rfl, hv'⟩)
  have HB := Lib.hid (show StrRow w (.slice A2 us.length c2) us from ⟨A2, c2, rfl, hu'⟩)
  clear hv' hu'
  by_cases hlen : ts.length = us.length
  · have hb : ((ts.length : Int) != (us.length : Int)) = false := by simp [hlen]
    have HL := Lib.hid hlen
    clear hlen
    go_enter Tryz.func46, Tryz.ntmps46
    go_wp2
    go_loopg [5] (ts.length) (fun n v wr => ∃ (m : Nat), n = ts.length - m ∧ v = .int .i64 (m : Int) ∧ m ≤ ts.length ∧ ts.take m = us.take m ∧ Below w.heap.size w wr)
    case atStart => exact ⟨0, rfl, rfl, Nat.zero_le _, by simp, Below.refl _ _⟩
    case round =>
      obtain ⟨m, hn, rfl, hm, he, hbl⟩ := hrel
      have HN := Lib.hid hn
      have HE := Lib.hid he
      clear hn he
      by_cases hlt : m < ts.length
      · have hlt2 : m < us.length := by rw [← HL.out]; exact hlt
        have hi : (m : Int) < (ts.length : Int) := by omega
        have hi2 : (m : Int) < (us.length : Int) := by omega
        have hi0 : (0 : Int) ≤ (m : Int) := by omega
        have hmi : (m : Int) ≤ 1000000000 := by omega
        obtain ⟨g, off, rfl, hgl, t0⟩ := HA.out.cellAt hbl m hlt
        obtain ⟨g2, off2, rfl, hgl2, u0⟩ := HB.out.cellAt hbl m hlt2
        obtain ⟨t, ht⟩ : ∃ t, ts[m]'hlt = t := ⟨_, rfl⟩
        obtain ⟨x, hx⟩ : ∃ x, us[m]'hlt2 = x := ⟨_, rfl⟩
        rw [ht] at t0
        rw [hx] at u0
        have HT := Lib.hid ht
        have HX := Lib.hid hx
        clear ht hx
        cases hq : (t == x) with
        | true =>
          have htx : t = x := by simpa using hq
          have HS := Lib.hid (take_step HE.out hlt hlt2 (by rw [HT.out, HX.out, htx]))
          clear htx
          go_wp2
          go_quiet (fail)
          go_wp2
          go_roundg (ts.length - (m + 1))
          case measure => have := HN.out; omega
          case rel => exact ⟨m + 1, rfl, by simp, hlt, HS.out, Below.drewN hbl _⟩
        | false =>
          have htx : t ≠ x := by simpa using hq
          have HS := Lib.hid (show decide (ts = us) = false by
            rw [decide_eq_false_iff_not]
            rintro rfl
            exact htx (HT.out.symm.trans HX.out))
          clear htx
          go_wp2
          go_quiet (fail)
          go_wp2
          go_ret
          rw [HS.out]
          exact ⟨rfl, Below.drewN hbl _⟩
      · have hi : ¬ (m : Int) < (ts.length : Int) := by omega
        have HS := Lib.hid (show decide (ts = us) = true by
          rw [decide_eq_true_eq]
          have h1 := HE.out
          rwa [List.take_of_length_le (by omega), List.take_of_length_le (by have := HL.out; omega)] at h1)
        go_wp2
        go_ret
        rw [HS.out]
        exact ⟨rfl, hbl⟩
  · have hb : ((ts.length : Int) != (us.length : Int)) = true := by simp; omega
    have HS := Lib.hid (show decide (ts = us) = false by
      rw [decide_eq_false_iff_not]
      rintro rfl
      exact hlen rfl)
    clear hlen
    go_enter Tryz.func46, Tryz.ntmps46
    go_wp2
    go_ret
    rw [HS.out]
    exact ⟨rfl, Below.refl _ _⟩


end Go.Proofs.YtdncljdfmdgdaaaGreatDoor

namespace Go.Proofs.YtdncljdfmdgdaaaGreatDoor
open Go.RowKit Go.Shelf
set_option linter.unusedSimpArgs false
set_option linter.unusedVariables false

set_option maxHeartbeats 4000000 in
theorem keepBools (ts us : List Bool) (v u : Value) (w : World) (hv : BoolRow w v ts) (hu : BoolRow w u us) (hl : ts.length ≤ 1000000000) (hl2 : us.length ≤ 1000000000) :
    Calls Tryz.prog 71 #[v, u] w fun e w' => e = .returned (.bool (decide (ts = us))) ∧ Below w.heap.size w w' := by
  obtain ⟨A1, c1, rfl, hv'⟩ := hv
  obtain ⟨A2, c2, rfl, hu'⟩ := hu
  have HA := Lib.hid (show BoolRow w (.slice A1 ts.length c1) ts from ⟨A1, c1, rfl, hv'⟩)
  have HB := Lib.hid (show BoolRow w (.slice A2 us.length c2) us from ⟨A2, c2, rfl, hu'⟩)
  clear hv' hu'
  by_cases hlen : ts.length = us.length
  · have hb : ((ts.length : Int) != (us.length : Int)) = false := by simp [hlen]
    have HL := Lib.hid hlen
    clear hlen
    go_enter Tryz.func71, Tryz.ntmps71
    go_wp2
    go_loopg [5] (ts.length) (fun n v wr => ∃ (m : Nat), n = ts.length - m ∧ v = .int .i64 (m : Int) ∧ m ≤ ts.length ∧ ts.take m = us.take m ∧ Below w.heap.size w wr)
    case atStart => exact ⟨0, rfl, rfl, Nat.zero_le _, by simp, Below.refl _ _⟩
    case round =>
      obtain ⟨m, hn, rfl, hm, he, hbl⟩ := hrel
      have HN := Lib.hid hn
      have HE := Lib.hid he
      clear hn he
      by_cases hlt : m < ts.length
      · have hlt2 : m < us.length := by rw [← HL.out]; exact hlt
        have hi : (m : Int) < (ts.length : Int) := by omega
        have hi2 : (m : Int) < (us.length : Int) := by omega
        have hi0 : (0 : Int) ≤ (m : Int) := by omega
        have hmi : (m : Int) ≤ 1000000000 := by omega
        obtain ⟨g, off, rfl, hgl, t0⟩ := HA.out.cellAt hbl m hlt
        obtain ⟨g2, off2, rfl, hgl2, u0⟩ := HB.out.cellAt hbl m hlt2
        obtain ⟨t, ht⟩ : ∃ t, ts[m]'hlt = t := ⟨_, rfl⟩
        obtain ⟨x, hx⟩ : ∃ x, us[m]'hlt2 = x := ⟨_, rfl⟩
        rw [ht] at t0
        rw [hx] at u0
        have HT := Lib.hid ht
        have HX := Lib.hid hx
        clear ht hx
        cases hq : (t == x) with
        | true =>
          have htx : t = x := by simpa using hq
          have hq2 : (t != x) = false := by simp [htx]
          have HS := Lib.hid (take_step HE.out hlt hlt2 (by rw [HT.out, HX.out, htx]))
          clear htx
          go_wp2
          go_quiet (fail)
          go_wp2
          go_roundg (ts.length - (m + 1))
          case measure => have := HN.out; omega
          case rel => exact ⟨m + 1, rfl, by simp, hlt, HS.out, Below.drewN hbl _⟩
        | false =>
          have htx : t ≠ x := by simpa using hq
          have hq2 : (t != x) = true := by simp [bne, hq]
          have HS := Lib.hid (show decide (ts = us) = false by
            rw [decide_eq_false_iff_not]
            rintro rfl
            exact htx (HT.out.symm.trans HX.out))
          clear htx
          go_wp2
          go_quiet (fail)
          go_wp2
          go_ret
          rw [HS.out]
          exact ⟨rfl, Below.drewN hbl _⟩
      · have hi : ¬ (m : Int) < (ts.length : Int) := by omega
        have HS := Lib.hid (show decide (ts = us) = true by
          rw [decide_eq_true_eq]
          have h1 := HE.out
          rwa [List.take_of_length_le (by omega), List.take_of_length_le (by have := HL.out; omega)] at h1)
        go_wp2
        go_ret
        rw [HS.out]
        exact ⟨rfl, hbl⟩
  · have hb : ((ts.length : Int) != (us.length : Int)) = true := by simp; omega
    have HS := Lib.hid (show decide (ts = us) = false by
      rw [decide_eq_false_iff_not]
      rintro rfl
      exact hlen rfl)
    clear hlen
    go_enter Tryz.func71, Tryz.ntmps71
    go_wp2
    go_ret
    rw [HS.out]
    exact ⟨rfl, Below.refl _ _⟩


end Go.Proofs.YtdncljdfmdgdaaaGreatDoor

namespace Go.Proofs.YtdncljdfmdgdaaaGreatDoor
open Go.RowKit Go.Shelf
set_option linter.unusedSimpArgs false
set_option linter.unusedVariables false

mutual
/-- Are two types the same tree? -/
def Sx.eqT : Sx.Ty → Sx.Ty → Bool
  | .mk k n ns es ps, .mk k' n' ns' es' ps' => (k == k') && ((n == n') && (decide (ns = ns') && (decide (es = es') && Sx.eqTs ps ps')))
def Sx.eqTs : List Sx.Ty → List Sx.Ty → Bool
  | [], [] => true
  | t :: l, u :: m => Sx.eqT t u && Sx.eqTs l m
  | _, _ => false
end
mutual
theorem Sx.eqT_iff : ∀ (t u : Sx.Ty), Sx.eqT t u = true ↔ t = u
  | .mk k n ns es ps, .mk k' n' ns' es' ps' => by
    rw [Sx.eqT]
    simp [Sx.eqTs_iff ps ps']
theorem Sx.eqTs_iff : ∀ (l m : List Sx.Ty), Sx.eqTs l m = true ↔ l = m
  | [], [] => by simp [Sx.eqTs]
  | t :: l, u :: m => by
    rw [Sx.eqTs, Bool.and_eq_true, Sx.eqT_iff t u, Sx.eqTs_iff l m]
    simp
  | [], u :: m => by simp [Sx.eqTs]
  | t :: l, [] => by simp [Sx.eqTs]
end

def KTyOk (t : Sx.Ty) : Prop := ∀ (u : Sx.Ty) (v x : Value) (W : World), Sx.size t ≤ 1000000 → Sx.size u ≤ 1000000 → IsTy W v t → IsTy W x u →
  Calls Tryz.prog 30 #[v, x] W fun e W' => e = .returned (.bool (Sx.eqT t u)) ∧ Below W.heap.size W W'
def KTysOk (l : List Sx.Ty) : Prop := ∀ (m : List Sx.Ty) (v x : Value) (W : World), Sx.sizeL l ≤ 1000000 → Sx.sizeL m ≤ 1000000 → TyRow W v l → TyRow W x m →
  Calls Tryz.prog 72 #[v, x] W fun e W' => e = .returned (.bool (Sx.eqTs l m)) ∧ Below W.heap.size W W'

set_option maxRecDepth 100000 in
set_option maxHeartbeats 8000000 in
theorem keepTypes (l : List Sx.Ty) (ih : ∀ t ∈ l, KTyOk t) : KTysOk l := by
  intro m v x W hz1 hz2 hv hx
  have hl1 := Sx.length_size l
  have hl2 := Sx.length_size m
  obtain ⟨A1, c1, rfl, hca, hra⟩ := hv
  obtain ⟨A2, c2, rfl, hcb, hrb⟩ := hx
  have HV := Lib.hid (show TyRow W (.slice A1 l.length c1) l from ⟨A1, c1, rfl, hca, hra⟩)
  have HX := Lib.hid (show TyRow W (.slice A2 m.length c2) m from ⟨A2, c2, rfl, hcb, hrb⟩)
  clear hca hra hcb hrb
  obtain ⟨k, hk⟩ : ∃ k, l.length = k := ⟨_, rfl⟩
  obtain ⟨j, hj⟩ : ∃ j, m.length = j := ⟨_, rfl⟩
  rw [hk] at HV ⊢
  rw [hj] at HX ⊢
  have k0 : (0 : Int) ≤ (k : Int) := by omega
  have k1 : (k : Int) ≤ 1000000 := by omega
  have j0 : (0 : Int) ≤ (j : Int) := by omega
  have j1 : (j : Int) ≤ 1000000 := by omega
  have HK := Lib.hid hk
  have HJ := Lib.hid hj
  have HZ1 := Lib.hid hz1
  have HZ2 := Lib.hid hz2
  have HIH := Lib.hid ih
  obtain ⟨L, hL⟩ : ∃ L, W.heap.size = L := ⟨_, rfl⟩
  have HL := Lib.hid hL
  clear hk hj hl1 hl2 hz1 hz2 ih hL
  by_cases hkj : k = j
  · subst hkj
    have HLE := Lib.hid (show m.length = k from HJ.out)
    go_enter Tryz.func72, Tryz.ntmps72
    go_wp2_with fail
    go_loopg [5] k (fun i v wr => ∃ (q : Nat), i = k - q ∧ v = .int .i64 (q : Int) ∧ q ≤ k ∧ l.take q = m.take q ∧ Below L W wr)
    case atStart => exact ⟨0, rfl, rfl, Nat.zero_le _, by simp, Below.refl _ _⟩
    case round =>
      obtain ⟨q, hi, rfl, hq, he, hb⟩ := hrel
      have HI := Lib.hid hi
      have HE := Lib.hid he
      have HB := Lib.hid hb
      have q0 : (0 : Int) ≤ (q : Int) := by omega
      have hLs : L ≤ wr.heap.size := by have := hb.size; have := HL.out; omega
      clear hi he hb
      by_cases hlt : q < k
      · have hqi : (q : Int) < (k : Int) := by omega
        have hq1 : q < l.length := by have := HK.out; omega
        have hq2 : q < m.length := by have := HLE.out; omega
        obtain ⟨g, off, An, cn, Ae, ce, Aq, cq, rfl, hty, hc5⟩ := HV.out.spot q hq1
        obtain ⟨g2, off2, Bn, dn, Be, de, Bq, dq, rfl, hty2, hd5⟩ := HX.out.spot q hq2
        rw [HL.out] at hc5 hd5
        obtain ⟨hg, x0, x1, x2, x3, x4⟩ := hc5 wr HB.out
        obtain ⟨hg2, y0, y1, y2, y3, y4⟩ := hd5 wr HB.out
        have hts := fun h : l[q]'hq1 = m[q]'hq2 => take_step HE.out hq1 hq2 h
        have hsm := Sx.size_mem (List.getElem_mem hq1)
        have hsm2 := Sx.size_mem (List.getElem_mem hq2)
        have hmem := List.getElem_mem hq1
        have hne : l[q]'hq1 ≠ m[q]'hq2 → Sx.eqTs l m = false := fun h => by
          cases hh : Sx.eqTs l m with
          | false => rfl
          | true => have := (Sx.eqTs_iff l m).1 hh; subst this; exact absurd rfl h
        obtain ⟨p, hp⟩ : ∃ p, l[q]'hq1 = p := ⟨_, rfl⟩
        obtain ⟨p2, hp2⟩ : ∃ p, m[q]'hq2 = p := ⟨_, rfl⟩
        rw [hp] at x0 x1 x2 x3 x4 hty hsm hmem
        rw [hp2] at y0 y1 y2 y3 y4 hty2 hsm2
        rw [hp, hp2] at hts hne
        have hbw : Below W.heap.size W wr.drew := by rw [HL.out]; exact Below.drew HB.out
        have hre := HIH.out p hmem p2 _ _ wr.drew (by have := HZ1.out; omega) (by have := HZ2.out; omega) (IsTy.below hbw _ _ hty) (IsTy.below hbw _ _ hty2)
        have HRE := Lib.hid hre
        have HTS := Lib.hid hts
        have HNE := Lib.hid hne
        clear hty hty2 hc5 hd5 hsm hsm2 hmem hp hp2 hbw hre hts hne
        go_upto_region 6 with fail
        cases hc : Sx.eqT p p2 with
        | true =>
          rw [hc] at HRE
          have HEQ := Lib.hid (HTS.out ((Sx.eqT_iff p p2).1 hc))
          clear hc
          go_region_with (go_at_call 30; refine HRE.out.mono ?_; rintro e w5 ⟨rfl, hb5⟩)
          all_goals
            have HB5 := Lib.hid ((Below.drew HB.out).trans (hb5.mono hLs))
            clear hb5
            go_wp2_with fail
            go_roundg (k - (q + 1))
            case measure => have := HI.out; omega
            case rel => exact ⟨q + 1, rfl, by simp, hlt, HEQ.out, HB5.out⟩
        | false =>
          rw [hc] at HRE
          have HF := Lib.hid (HNE.out (fun h => by have := (Sx.eqT_iff p p2).2 h; rw [hc] at this; cases this))
          clear hc
          go_region_with (go_at_call 30; refine HRE.out.mono ?_; rintro e w5 ⟨rfl, hb5⟩)
          all_goals
            have HB5 := Lib.hid ((Below.drew HB.out).trans (hb5.mono hLs))
            clear hb5
            go_wp2_with fail
            go_ret
            rw [HF.out, HL.out]
            exact ⟨rfl, HB5.out⟩
      · have hqi : ¬ (q : Int) < (k : Int) := by omega
        have HF := Lib.hid (show Sx.eqTs l m = true by
          have h := HE.out
          rw [List.take_of_length_le (by have := HK.out; omega), List.take_of_length_le (by have := HLE.out; omega)] at h
          exact (Sx.eqTs_iff l m).2 h)
        go_wp2_with fail
        go_ret
        rw [HF.out, HL.out]
        exact ⟨rfl, HB.out⟩
  · have hb : ((k : Int) != (j : Int)) = true := by rw [bne_iff_ne]; omega
    have HF := Lib.hid (show Sx.eqTs l m = false by
      cases hh : Sx.eqTs l m with
      | false => rfl
      | true => have := (Sx.eqTs_iff l m).1 hh; subst this; have := HK.out; have := HJ.out; omega)
    go_enter Tryz.func72, Tryz.ntmps72
    go_wp2_with fail
    go_ret
    rw [HF.out]
    exact ⟨rfl, Below.refl _ _⟩

theorem Sx.eqT_parts (t u : Sx.Ty) : Sx.eqT t u = ((t.kind == u.kind) && ((t.name == u.name) && (decide (t.names = u.names) && (decide (t.embeds = u.embeds) && Sx.eqTs t.parts u.parts)))) := by
  cases t; cases u; rw [Sx.eqT]; rfl

set_option maxRecDepth 100000 in
set_option maxHeartbeats 8000000 in
theorem keepType1 (t : Sx.Ty) (ih : KTysOk t.parts) : KTyOk t := by
  intro u v x W hz1 hz2 hv hx
  have hs1 := Sx.size_parts t
  have hs2 := Sx.size_parts u
  have hp1 := Sx.length_size t.parts
  have hp2 := Sx.length_size u.parts
  have heq := Sx.eqT_parts t u
  obtain ⟨An, cn, Ae, ce, Ap, cp, rfl, h1, h2, h3⟩ := hv.agg
  obtain ⟨Bn, dn, Be, de, Bp, dp, rfl, h4, h5, h6⟩ := hx.agg
  have hT := fun X (hX : Below W.heap.size W X) => keepTexts t.names u.names _ _ X (h1.below hX) (h4.below hX) (by omega) (by omega)
  have hB := fun X (hX : Below W.heap.size W X) => keepBools t.embeds u.embeds _ _ X (h2.below hX) (h5.below hX) (by omega) (by omega)
  have hP := fun X (hX : Below W.heap.size W X) => ih u.parts _ _ X (by omega) (by omega) (h3.below hX) (h6.below hX)
  obtain ⟨b1, e1⟩ : ∃ b, (t.kind == u.kind) = b := ⟨_, rfl⟩
  obtain ⟨b2, e2⟩ : ∃ b, (t.name == u.name) = b := ⟨_, rfl⟩
  obtain ⟨b3, e3⟩ : ∃ b, decide (t.names = u.names) = b := ⟨_, rfl⟩
  obtain ⟨b4, e4⟩ : ∃ b, decide (t.embeds = u.embeds) = b := ⟨_, rfl⟩
  obtain ⟨b5, e5⟩ : ∃ b, Sx.eqTs t.parts u.parts = b := ⟨_, rfl⟩
  rw [e1, e2, e3, e4, e5] at heq
  rw [e3] at hT
  rw [e4] at hB
  rw [e5] at hP
  rw [heq]
  obtain ⟨kt, hkt⟩ : ∃ k, t.kind = k := ⟨_, rfl⟩
  obtain ⟨ku, hku⟩ : ∃ k, u.kind = k := ⟨_, rfl⟩
  obtain ⟨nt, hnt⟩ : ∃ k, t.name = k := ⟨_, rfl⟩
  obtain ⟨nu, hnu⟩ : ∃ k, u.name = k := ⟨_, rfl⟩
  rw [hkt, hku] at e1
  rw [hnt, hnu] at e2
  rw [hkt, hku, hnt, hnu]
  obtain ⟨L, hL⟩ : ∃ L, W.heap.size = L := ⟨_, rfl⟩
  obtain ⟨w2, hw2⟩ : ∃ w2, W.alloc (.cells #[.int .i64 kt, .string ⟨nt.toArray⟩, .slice An t.names.length cn, .slice Ae t.embeds.length ce, .slice Ap t.parts.length cp] 26) = w2 := ⟨_, rfl⟩
  obtain ⟨L5, hL5⟩ : ∃ L5, w2.heap.size = L5 := ⟨_, rfl⟩
  obtain ⟨w3, hw3⟩ : ∃ w3, w2.alloc (.cells #[.int .i64 ku, .string ⟨nu.toArray⟩, .slice Bn u.names.length dn, .slice Be u.embeds.length de, .slice Bp u.parts.length dp] 26) = w3 := ⟨_, rfl⟩
  have g2 := World.grownBy_alloc W (.cells #[.int .i64 kt, .string ⟨nt.toArray⟩, .slice An t.names.length cn, .slice Ae t.embeds.length ce, .slice Ap t.parts.length cp] 26) none
  have x2 := heap_alloc_new W (.cells #[.int .i64 kt, .string ⟨nt.toArray⟩, .slice An t.names.length cn, .slice Ae t.embeds.length ce, .slice Ap t.parts.length cp] 26)
  rw [hw2] at g2 x2
  have g3 := World.grownBy_alloc w2 (.cells #[.int .i64 ku, .string ⟨nu.toArray⟩, .slice Bn u.names.length dn, .slice Be u.embeds.length de, .slice Bp u.parts.length dp] 26) none
  have x3 := heap_alloc_new w2 (.cells #[.int .i64 ku, .string ⟨nu.toArray⟩, .slice Bn u.names.length dn, .slice Be u.embeds.length de, .slice Bp u.parts.length dp] 26)
  rw [hw3] at g3 x3
  rw [hL] at x2
  rw [hL5] at x3
  have H3 := Lib.hid (show Held2 L W #[.int .i64 kt, .string ⟨nt.toArray⟩, .slice An t.names.length cn, .slice Ae t.embeds.length ce, .slice Ap t.parts.length cp] 26 L5 #[.int .i64 ku, .string ⟨nu.toArray⟩, .slice Bn u.names.length dn, .slice Be u.embeds.length de, .slice Bp u.parts.length dp] 26 w3 from ⟨by rw [← hL]; exact (grown_below g2).trans ((grown_below g3).mono g2.size), (g3.block L (lt_of_block x2) (fun e => nomatch e)).trans x2, x3⟩)
  have HT := Lib.hid hT
  have HB := Lib.hid hB
  have HP := Lib.hid hP
  have HL := Lib.hid hL
  clear hT hB hP g2 g3 x2 x3 heq hs1 hs2 hp1 hp2 h1 h2 h3 h4 h5 h6 e3 e4 e5 hkt hku hnt hnu hv hx ih hz1 hz2
  have h6 := HL.out
  obtain ⟨x0, x1, x2, x3, x4⟩ := five_cells H3.out.b1
  obtain ⟨y0, y1, y2, y3, y4⟩ := five_cells H3.out.b2
  obtain ⟨l1, l2⟩ := H3.out.lt
  cases b1 with
  | false =>
    go_enter Tryz.func30, Tryz.ntmps30
    go_wp2_with fail
    go_ret
    refine ⟨by first | rfl | simp, ?_⟩
    first | exact H3.out.b | (rw [HL.out]; exact H3.out.b)
  | true =>
    obtain rfl : kt = ku := by simpa using e1
    clear e1
    cases b2 with
    | false =>
      go_enter Tryz.func30, Tryz.ntmps30
      go_wp2_with fail
      go_ret
      refine ⟨by first | rfl | simp, ?_⟩
      first | exact H3.out.b | (rw [HL.out]; exact H3.out.b)
    | true =>
      obtain rfl : nt = nu := by simpa using e2
      clear e2
      cases b3 with
      | false =>
        go_enter Tryz.func30, Tryz.ntmps30
        go_wp2_with (go_at_call 46; refine (HT.out _ (by first | exact H3.out.b | (rw [HL.out]; exact H3.out.b))).mono ?_; rintro e w4 ⟨rfl, hb4⟩; have H4 := Lib.hid (H3.out.go hb4); clear hb4; clear x0 x1 x2 x3 x4 y0 y1 y2 y3 y4 l1 l2; obtain ⟨x0, x1, x2, x3, x4⟩ := five_cells H4.out.b1; obtain ⟨y0, y1, y2, y3, y4⟩ := five_cells H4.out.b2; obtain ⟨l1, l2⟩ := H4.out.lt)
        go_ret
        refine ⟨by first | rfl | simp, ?_⟩
        first | exact H4.out.b | (rw [HL.out]; exact H4.out.b)
      | true =>
        cases b4 with
        | false =>
          go_enter Tryz.func30, Tryz.ntmps30
          go_wp2_with (first | (go_at_call 46; refine (HT.out _ (by first | exact H3.out.b | (rw [HL.out]; exact H3.out.b))).mono ?_; rintro e w4 ⟨rfl, hb4⟩; have H4 := Lib.hid (H3.out.go hb4); clear hb4; clear x0 x1 x2 x3 x4 y0 y1 y2 y3 y4 l1 l2; obtain ⟨x0, x1, x2, x3, x4⟩ := five_cells H4.out.b1; obtain ⟨y0, y1, y2, y3, y4⟩ := five_cells H4.out.b2; obtain ⟨l1, l2⟩ := H4.out.lt) | (go_at_call 71; refine (HB.out _ (by first | exact H4.out.b | (rw [HL.out]; exact H4.out.b))).mono ?_; rintro e w5 ⟨rfl, hb5⟩; have H5 := Lib.hid (H4.out.go hb5); clear hb5; clear x0 x1 x2 x3 x4 y0 y1 y2 y3 y4 l1 l2; obtain ⟨x0, x1, x2, x3, x4⟩ := five_cells H5.out.b1; obtain ⟨y0, y1, y2, y3, y4⟩ := five_cells H5.out.b2; obtain ⟨l1, l2⟩ := H5.out.lt))
          go_ret
          refine ⟨by first | rfl | simp, ?_⟩
          first | exact H5.out.b | (rw [HL.out]; exact H5.out.b)
        | true =>
          cases b5 with
          | false =>
            go_enter Tryz.func30, Tryz.ntmps30
            go_wp2_with (first | (go_at_call 46; refine (HT.out _ (by first | exact H3.out.b | (rw [HL.out]; exact H3.out.b))).mono ?_; rintro e w4 ⟨rfl, hb4⟩; have H4 := Lib.hid (H3.out.go hb4); clear hb4; clear x0 x1 x2 x3 x4 y0 y1 y2 y3 y4 l1 l2; obtain ⟨x0, x1, x2, x3, x4⟩ := five_cells H4.out.b1; obtain ⟨y0, y1, y2, y3, y4⟩ := five_cells H4.out.b2; obtain ⟨l1, l2⟩ := H4.out.lt) | (go_at_call 71; refine (HB.out _ (by first | exact H4.out.b | (rw [HL.out]; exact H4.out.b))).mono ?_; rintro e w5 ⟨rfl, hb5⟩; have H5 := Lib.hid (H4.out.go hb5); clear hb5; clear x0 x1 x2 x3 x4 y0 y1 y2 y3 y4 l1 l2; obtain ⟨x0, x1, x2, x3, x4⟩ := five_cells H5.out.b1; obtain ⟨y0, y1, y2, y3, y4⟩ := five_cells H5.out.b2; obtain ⟨l1, l2⟩ := H5.out.lt) | (go_at_call 72; refine (HP.out _ (by first | exact H5.out.b | (rw [HL.out]; exact H5.out.b))).mono ?_; rintro e w6 ⟨rfl, hb6⟩; have H6 := Lib.hid (H5.out.go hb6); clear hb6; clear x0 x1 x2 x3 x4 y0 y1 y2 y3 y4 l1 l2; obtain ⟨x0, x1, x2, x3, x4⟩ := five_cells H6.out.b1; obtain ⟨y0, y1, y2, y3, y4⟩ := five_cells H6.out.b2; obtain ⟨l1, l2⟩ := H6.out.lt))
            go_ret
            refine ⟨by first | rfl | simp, ?_⟩
            first | exact H6.out.b | (rw [HL.out]; exact H6.out.b)
          | true =>
            go_enter Tryz.func30, Tryz.ntmps30
            go_wp2_with (first | (go_at_call 46; refine (HT.out _ (by first | exact H3.out.b | (rw [HL.out]; exact H3.out.b))).mono ?_; rintro e w4 ⟨rfl, hb4⟩; have H4 := Lib.hid (H3.out.go hb4); clear hb4; clear x0 x1 x2 x3 x4 y0 y1 y2 y3 y4 l1 l2; obtain ⟨x0, x1, x2, x3, x4⟩ := five_cells H4.out.b1; obtain ⟨y0, y1, y2, y3, y4⟩ := five_cells H4.out.b2; obtain ⟨l1, l2⟩ := H4.out.lt) | (go_at_call 71; refine (HB.out _ (by first | exact H4.out.b | (rw [HL.out]; exact H4.out.b))).mono ?_; rintro e w5 ⟨rfl, hb5⟩; have H5 := Lib.hid (H4.out.go hb5); clear hb5; clear x0 x1 x2 x3 x4 y0 y1 y2 y3 y4 l1 l2; obtain ⟨x0, x1, x2, x3, x4⟩ := five_cells H5.out.b1; obtain ⟨y0, y1, y2, y3, y4⟩ := five_cells H5.out.b2; obtain ⟨l1, l2⟩ := H5.out.lt) | (go_at_call 72; refine (HP.out _ (by first | exact H5.out.b | (rw [HL.out]; exact H5.out.b))).mono ?_; rintro e w6 ⟨rfl, hb6⟩; have H6 := Lib.hid (H5.out.go hb6); clear hb6; clear x0 x1 x2 x3 x4 y0 y1 y2 y3 y4 l1 l2; obtain ⟨x0, x1, x2, x3, x4⟩ := five_cells H6.out.b1; obtain ⟨y0, y1, y2, y3, y4⟩ := five_cells H6.out.b2; obtain ⟨l1, l2⟩ := H6.out.lt))
            go_ret
            refine ⟨by first | rfl | simp, ?_⟩
            first | exact H6.out.b | (rw [HL.out]; exact H6.out.b)
theorem keepTypeAll : ∀ (n : Nat) (t : Sx.Ty), Sx.size t ≤ n → KTyOk t
  | 0, t, h => by have := Sx.size_pos t; omega
  | n + 1, t, h => keepType1 t (keepTypes t.parts fun p hp => keepTypeAll n p (by
      have := Sx.size_mem hp
      have := Sx.size_parts t
      omega))

end Go.Proofs.YtdncljdfmdgdaaaGreatDoor

namespace Go.Proofs.YtdncljdfmdgdaaaGreatDoor
open Go.RowKit Go.Shelf
set_option linter.unusedSimpArgs false
set_option linter.unusedVariables false

set_option maxHeartbeats 4000000 in
theorem eqTexts (ts us : List Lx.Bytes) (v u : Value) (w : World) (hv : StrRow w v ts) (hu : StrRow w u us) (hl : ts.length ≤ 1000000000) (hl2 : us.length ≤ 1000000000) :
    Calls Tryz.prog 85 #[v, u] w fun e w' => e = .returned (.bool (decide (ts = us))) ∧ Below w.heap.size w w' := by
  obtain ⟨A1, c1, rfl, hv'⟩ := hv
  obtain ⟨A2, c2, rfl, hu'⟩ := hu
  have HA := Lib.hid (show StrRow w (.slice A1 ts.length c1) ts from ⟨A1, c1, rfl, hv'⟩)
  have HB := Lib.hid (show StrRow w (.slice A2 us.length c2) us from ⟨A2, c2, rfl, hu'⟩)
  clear hv' hu'
  by_cases hlen : ts.length = us.length
  · have hb : ((ts.length : Int) != (us.length : Int)) = false := by simp [hlen]
    have HL := Lib.hid hlen
    clear hlen
    go_enter Tryz.func85, Tryz.ntmps85
    go_wp2
    go_loopg [13] (ts.length) (fun n v wr => ∃ (m : Nat), n = ts.length - m ∧ v = .int .i64 (m : Int) ∧ m ≤ ts.length ∧ ts.take m = us.take m ∧ Below w.heap.size w wr)
    case atStart => exact ⟨0, rfl, rfl, Nat.zero_le _, by simp, Below.refl _ _⟩
    case round =>
      obtain ⟨m, hn, rfl, hm, he, hbl⟩ := hrel
      have HN := Lib.hid hn
      have HE := Lib.hid he
      clear hn he
      by_cases hlt : m < ts.length
      · have hlt2 : m < us.length := by rw [← HL.out]; exact hlt
        have hi : (m : Int) < (ts.length : Int) := by omega
        have hi2 : (m : Int) < (us.length : Int) := by omega
        have hi0 : (0 : Int) ≤ (m : Int) := by omega
        have hmi : (m : Int) ≤ 1000000000 := by omega
        obtain ⟨g, off, rfl, hgl, t0⟩ := HA.out.cellAt hbl m hlt
        obtain ⟨g2, off2, rfl, hgl2, u0⟩ := HB.out.cellAt hbl m hlt2
        obtain ⟨t, ht⟩ : ∃ t, ts[m]'hlt = t := ⟨_, rfl⟩
        obtain ⟨x, hx⟩ : ∃ x, us[m]'hlt2 = x := ⟨_, rfl⟩
        rw [ht] at t0
        rw [hx] at u0
        have HT := Lib.hid ht
        have HX := Lib.hid hx
        clear ht hx
        cases hq : (t == x) with
        | true =>
          have htx : t = x := by simpa using hq
          have HS := Lib.hid (take_step HE.out hlt hlt2 (by rw [HT.out, HX.out, htx]))
          clear htx
          go_wp2
          go_quiet (fail)
          go_wp2
          go_roundg (ts.length - (m + 1))
          case measure => have := HN.out; omega
          case rel => exact ⟨m + 1, rfl, by simp, hlt, HS.out, Below.drewN hbl _⟩
        | false =>
          have htx : t ≠ x := by simpa using hq
          have HS := Lib.hid (show decide (ts = us) = false by
            rw [decide_eq_false_iff_not]
            rintro rfl
            exact htx (HT.out.symm.trans HX.out))
          clear htx
          go_wp2
          go_quiet (fail)
          go_wp2
          go_ret
          rw [HS.out]
          exact ⟨rfl, Below.drewN hbl _⟩
      · have hi : ¬ (m : Int) < (ts.length : Int) := by omega
        have HS := Lib.hid (show decide (ts = us) = true by
          rw [decide_eq_true_eq]
          have h1 := HE.out
          rwa [List.take_of_length_le (by omega), List.take_of_length_le (by have := HL.out; omega)] at h1)
        go_wp2
        go_ret
        rw [HS.out]
        exact ⟨rfl, hbl⟩
  · have hb : ((ts.length : Int) != (us.length : Int)) = true := by simp; omega
    have HS := Lib.hid (show decide (ts = us) = false by
      rw [decide_eq_false_iff_not]
      rintro rfl
      exact hlen rfl)
    clear hlen
    go_enter Tryz.func85, Tryz.ntmps85
    go_wp2
    go_ret
    rw [HS.out]
    exact ⟨rfl, Below.refl _ _⟩


end Go.Proofs.YtdncljdfmdgdaaaGreatDoor
