/-
  The walk of LexBlanks.
-/
import Derived.Test.YtbhdkkkaeabkhaaGreatDoorLwBack
import Derived.Test.YtbhdkkkaeabkhaaGreatDoorLwOpenB
import Derived.Test.YtbhdkkkaeabkhaaGreatDoorLxRows
namespace Go.Proofs.YtbhdkkkaeabkhaaGreatDoor
open Go.RowKit Go.Shelf
set_option linter.unusedSimpArgs false
set_option linter.unusedVariables false

def rowCells5 : Array Value := (Lx.theRows.map fun s => Value.string ⟨s.toArray⟩).toArray
theorem rowCells5_at (m : Nat) (h : m < 5) : rowCells5[m]? = some (.string ⟨(Lx.theRows.getD m []).toArray⟩) := by
  have hl : Lx.theRows.length = 5 := rfl
  unfold rowCells5
  rw [List.getElem?_toArray, List.getElem?_map, List.getD_eq_getElem?_getD, List.getElem?_eq_getElem (by omega)]
  rfl
theorem row_ok (m : Nat) (h : m < 5) : Lx.IsRow (Lx.theRows.getD m []) ∧ (Lx.theRows.getD m []).length ≤ 16 := by
  have hl : Lx.theRows.length = 5 := rfl
  have hm : Lx.theRows.getD m [] ∈ Lx.theRows := by
    rw [List.getD_eq_getElem?_getD, List.getElem?_eq_getElem (by omega)]
    exact List.getElem_mem _
  refine ⟨Lx.rows_are _ hm, ?_⟩
  have : ∀ r ∈ Lx.theRows, r.length ≤ 16 := by decide
  exact this _ hm

set_option maxRecDepth 100000 in
set_option maxHeartbeats 8000000 in
theorem lawBlanks (s : ByteArray) (bs : List UInt8) (v : Value) (w : World) (hv : BytesArg w v bs) (hG : GL w) (hN : NG ≤ w.heap.size) : Calls Tryz.prog 7 #[.string s, v] w fun e w' => e = .returned (.bool true) ∧ LW w w' := by
  have H0 := LW.refl hG hN
  obtain ⟨a9, c9, rfl, hbl, hat⟩ := hv
  have HAT := Lib.hid hat
  clear hG hN hat
  have hbl1 : (bs.length : Int) ≤ 9223372036854775807 := by omega
  go_enter Tryz.func7, Tryz.ntmps7
  go_upto_region 2 with (go_at_call 22; refine (lwFew H0 s 1500 (by omega)).mono ?_; rintro e W1 ⟨A, rfl, hA, hAs, H1⟩)
  clear hA
  obtain ⟨⟨xs, o⟩, hT⟩ : ∃ r, Lx.toks A.data.toList = r := ⟨_, rfl⟩
  cases o with
  | some yx =>
    obtain ⟨y, x⟩ := yx
    have hk := lwTokensBad H1 A (by omega) hT
    clear hT
    go_wp2_with (first
      | (go_at_call 16; refine hk.mono ?_; clear hk; rintro e W3 ⟨g, rfl, H3, -⟩)
      | (go_at_call 3; refine (lwRuns H3).mono ?_; rintro e W4 ⟨rfl, H4⟩))
    go_ret
    exact ⟨rfl, H4⟩
  | none =>
    have hk := lwTokensOk H1 A (by omega) hT
    have hgo : Lx.go (A.data.toList.length + 1) 0 0 A.data.toList = (xs, none) := by
      have h := hT
      unfold Lx.toks at h
      rwa [if_neg (by rw [len_size]; omega)] at h
    obtain ⟨hcnt, hprt⟩ := Lx.go_parts _ _ _ _ _ hgo (by omega)
    rw [len_size] at hprt
    have hbnd := toks_bounds hT
    have hxl : xs.length ≤ 4096 := by omega
    have hl1 : (xs.length : Int) ≤ 4096 := by omega
    have HP := Lib.hid hprt
    have HB := Lib.hid hbnd
    clear hT hgo hcnt hprt hbnd
    go_upto_region 6 with (go_at_call 16; refine hk.mono ?_; clear hk; rintro e W3 ⟨vx, rfl, H3, hvx⟩)
    obtain ⟨a0, c0, rfl⟩ := hvx.slice
    obtain ⟨Q, hQ⟩ : ∃ Q, W3.heap.size = Q := ⟨_, rfl⟩
    have H5 := H3.self.alloc (.cells rowCells5 9)
    have hrc := heap_alloc_new W3 (.cells rowCells5 9)
    show Code.wp _ _ _ _ (W3.alloc (.cells rowCells5 9))
    obtain ⟨W5, hW5⟩ : ∃ W5, W3.alloc (.cells rowCells5 9) = W5 := ⟨_, rfl⟩
    rw [hW5] at H5 hrc ⊢
    rw [hQ] at hrc ⊢
    have hQl := lt_of_block hrc
    have HV := Lib.hid (hvx.below H5.b)
    have HRC := Lib.hid hrc
    have H5w := H3.trans H5
    clear hvx hrc hW5 hQ
    go_wp2_with fail
    go_loopg [8, 9] (xs.length) (fun n r v wr => ∃ (m : Nat) (S : ByteArray) (ps : List (Lx.Bytes × Lx.Tok)), n = xs.length - m ∧ r = .string S ∧ v = .int .i64 (m : Int) ∧ m ≤ xs.length ∧ LW W5 wr ∧ S.size ≤ m * 1600 ∧ S.data.toList = Lx.built ps ∧ ps.map Prod.snd = xs.take m ∧ ∀ x ∈ ps, Lx.IsRow x.1)
    case atStart => exact ⟨0, ⟨#[]⟩, [], rfl, rfl, rfl, Nat.zero_le _, H5.self, by decide, rfl, by simp, by simp⟩
    case round =>
      obtain ⟨m, S, ps, hn, rfl, rfl, hm, hw, hS, hSp, hps, hir⟩ := hrel
      have HN := Lib.hid hn
      have HSP := Lib.hid hSp
      have HPS := Lib.hid hps
      have HIR := Lib.hid hir
      clear hn hSp hps hir
      have hi0 : (0 : Int) ≤ (m : Int) := by omega
      have hs1 : (S.size : Int) ≤ 10000000 := by omega
      by_cases hlt : m < xs.length
      · have hi : (m : Int) < (xs.length : Int) := by omega
        have hmi : (m : Int) ≤ 4096 := by omega
        obtain ⟨g, cur, fr, rfl, hgb, hcur⟩ := HV.out.at hlt
        have hgb' := (hw.b.block g (lt_of_block hgb)).trans hgb
        obtain ⟨t0, t1, t2, t3⟩ := toks_at hgb' hcur hlt
        have hgl := lt_of_block hgb'
        obtain ⟨t, ht⟩ : ∃ t, xs[m]'hlt = t := ⟨_, rfl⟩
        have htm : t ∈ xs := by rw [← ht]; exact List.getElem_mem hlt
        rw [ht] at t0 t1 t2 t3
        obtain ⟨hF, hwt, hwl, -, -⟩ := HP.out t htm
        obtain ⟨T, hTe⟩ : ∃ T : ByteArray, (⟨(Lx.written t).1.toArray⟩ : ByteArray) = T := ⟨_, rfl⟩
        have hTs : T.size ≤ 1500 := by rw [← hTe]; show (Lx.written t).1.length ≤ _; omega
        have hTd : T.data.toList = (Lx.written t).1 := by rw [← hTe]
        have hts1 : (T.size : Int) ≤ 1500 := by omega
        have hjn : Calls Tryz.prog 18 #[.slice (some ⟨wr.heap.size, 0, none⟩) 1 1] (wr.alloc (.cells #[.int .i64 t.pos, .int .i64 t.kind, .string ⟨t.s.toArray⟩, .int .i64 t.n] 26)) fun e X' => e = .returned (.tuple #[.string T, .int .i64 0]) ∧ LW wr X' := by
          rw [← hTe]
          refine lwJoinNew hw.self [t] 1 rfl (by simp) ?_ (Lx.join_one hwt (by omega))
          intro u hu
          rw [List.mem_singleton] at hu
          subst hu
          exact HB.out u htm
        have HTM := Lib.hid (show xs.take (m + 1) = xs.take m ++ [t] by rw [List.take_succ_eq_append_getElem hlt, ht])
        have hnew : ∀ (R : ByteArray), Lx.IsRow R.data.toList → R.size ≤ 16 → (S ++ R ++ T : ByteArray).size ≤ (m + 1) * 1600 ∧ (S ++ R ++ T : ByteArray).data.toList = Lx.built (ps ++ [(R.data.toList, t)]) ∧ (ps ++ [(R.data.toList, t)]).map Prod.snd = xs.take (m + 1) ∧ ∀ x ∈ ps ++ [(R.data.toList, t)], Lx.IsRow x.1 := by
          intro R hR hRs
          refine ⟨?_, ?_, ?_, ?_⟩
          · rw [ByteArray.size_append, ByteArray.size_append]
            omega
          · have d2 : ∀ a b : ByteArray, (a ++ b).data.toList = a.data.toList ++ b.data.toList := fun a b => by rw [ByteArray.data_append]; simp
            rw [d2, d2, HSP.out, hTd, Lx.built_append, List.append_assoc]
          · rw [List.map_append, HPS.out, HTM.out]
            rfl
          · intro x hx
            rcases List.mem_append.1 hx with hx | hx
            · exact HIR.out x hx
            · rw [List.mem_singleton] at hx
              subst hx
              exact hR
        have HNEW := Lib.hid hnew
        clear hnew hF hwt hwl hTe hTd htm ht hgb hgb' hcur
        by_cases hb0 : 0 < bs.length
        · have hbi : (0 : Int) < (bs.length : Int) := by omega
          have hk9 : m % bs.length < bs.length := Nat.mod_lt _ hb0
          obtain ⟨b, off, rfl, hcell⟩ := HAT.out (m % bs.length) hk9
          obtain ⟨c, hc⟩ : ∃ c, bs[m % bs.length]'hk9 = c := ⟨_, rfl⟩
          rw [hc] at hcell
          have hbw : b < w.heap.size := World.block_lt_of_cell? w ⟨b, _, none⟩ hcell
          have hcell5 : wr.cell? ⟨b, off + m % bs.length, none⟩ = some (.int .u8 (c.toNat : Int)) := (World.cell?_of_block (a := ⟨b, off + m % bs.length, none⟩) ((H5w.trans hw).b.block b hbw)).trans hcell
          obtain ⟨k, hk⟩ : ∃ k, m % bs.length = k := ⟨_, rfl⟩
          rw [hk] at hcell5 hk9
          have hmod : (m : Int).tmod (bs.length : Int) = (k : Int) := by
            rw [Int.tmod_eq_emod_of_nonneg (by omega), ← hk]
            exact (Int.natCast_emod m bs.length).symm
          obtain ⟨j, hj⟩ : ∃ j, c.toNat % 5 = j := ⟨_, rfl⟩
          have hj5 : j < 5 := by omega
          have hmod5 : (c.toNat : Int).tmod 5 = (j : Int) := by
            rw [Int.tmod_eq_emod_of_nonneg (by omega)]
            omega
          have hr5 := (cell_of ((hw.b.block Q hQl).trans HRC.out) j).trans (rowCells5_at j hj5)
          obtain ⟨hrow1, hrow2⟩ := row_ok j hj5
          obtain ⟨r, hr⟩ : ∃ r, Lx.theRows.getD j [] = r := ⟨_, rfl⟩
          rw [hr] at hr5 hrow1 hrow2
          obtain ⟨R, hR⟩ : ∃ R : ByteArray, (⟨r.toArray⟩ : ByteArray) = R := ⟨_, rfl⟩
          rw [hR] at hr5
          have hRs : R.size ≤ 16 := by rw [← hR]; exact hrow2
          have hRd : Lx.IsRow R.data.toList := by rw [← hR]; exact hrow1
          have hrs1 : (R.size : Int) ≤ 16 := by omega
          have HX := Lib.hid (HNEW.out R hRd hRs)
          have k0 : (0 : Int) ≤ (k : Int) := by omega
          have k1 : (k : Int) < (bs.length : Int) := by omega
          have j0 : (0 : Int) ≤ (j : Int) := by omega
          have j1 : (j : Int) < 5 := by omega
          clear hk hj hr hR hRd hrow1 hrow2 hc hcell
          have hc256 : c.toNat < 256 := c.toNat_lt
          have hw64 : wrap64 (c.toNat : Int) = (c.toNat : Int) := by unfold wrap64; omega
          have hbr : b < wr.heap.size := World.block_lt_of_cell? wr ⟨b, _, none⟩ hcell5
          have hQr : Q < wr.heap.size := World.block_lt_of_cell? wr ⟨Q, _, none⟩ hr5
          go_wp2_with (go_at_call 18; refine hjn.mono ?_; clear hjn; rintro e W6 ⟨rfl, H6⟩; have hcell6 := (World.cell?_of_block (a := ⟨b, off + k, none⟩) (H6.b.block b hbr)).trans hcell5; have hr6 := (World.cell?_of_block (a := ⟨Q, j, none⟩) (H6.b.block Q hQr)).trans hr5; have hb6 := Nat.lt_of_lt_of_le hbr H6.b.size; have hq6 := Nat.lt_of_lt_of_le hQr H6.b.size)
          go_roundg (xs.length - (m + 1))
          case measure => have := HN.out; omega
          case rel => exact ⟨m + 1, _, _, rfl, rfl, by simp, hlt, hw.trans H6, HX.out.1, HX.out.2.1, HX.out.2.2.1, HX.out.2.2.2⟩
        · have hbi : ¬ (0 : Int) < (bs.length : Int) := by omega
          have HX := Lib.hid (HNEW.out ⟨#[32]⟩ (Lx.rows_are _ (by decide)) (by decide))
          go_wp2_with (go_at_call 18; refine hjn.mono ?_; clear hjn; rintro e W6 ⟨rfl, H6⟩)
          go_roundg (xs.length - (m + 1))
          case measure => have := HN.out; omega
          case rel => exact ⟨m + 1, _, _, rfl, rfl, by simp, hlt, hw.trans H6, HX.out.1, HX.out.2.1, HX.out.2.2.1, HX.out.2.2.2⟩
      · have hi : ¬ (m : Int) < (xs.length : Int) := by omega
        have hfin := H5w.trans hw
        by_cases h6 : 60000 < S.size
        · have h6i : (60000 : Int) < (S.size : Int) := by omega
          go_wp2_with (go_at_call 3; refine (lwRuns hfin).mono ?_; rintro e W8 ⟨rfl, H8⟩)
          go_ret
          exact ⟨rfl, H8⟩
        · have h6i : ¬ (60000 : Int) < (S.size : Int) := by omega
          have hpl : ps.length = xs.length := by
            have := congrArg List.length HPS.out
            rw [List.length_map, List.length_take] at this
            omega
          have hmem : ∀ x ∈ ps, Lx.IsRow x.1 ∧ (Lx.written x.2).2 = true := fun x hx => ⟨HIR.out x hx, by
            have h2 : x.2 ∈ xs := by
              have : x.2 ∈ ps.map Prod.snd := List.mem_map_of_mem hx
              rw [HPS.out] at this
              exact List.mem_of_mem_take this
            exact (HP.out x.2 h2).2.1⟩
          obtain ⟨hb1, hb2⟩ := Lx.rows_law ps hmem (by omega) (by rw [← HSP.out, len_size]; omega)
          have hbm : ps.map (fun x => x.2.bare) = xs.map Lx.Tok.bare := by
            have : ps.map (fun x => x.2.bare) = (ps.map Prod.snd).map Lx.Tok.bare := by rw [List.map_map]; rfl
            rw [this, HPS.out, List.take_of_length_le (by omega)]
          rw [hbm, ← HSP.out] at hb1
          rw [← HSP.out] at hb2
          obtain ⟨D, hD⟩ : ∃ D : ByteArray, S ++ ⟨#[32, 47, 47, 32, 101, 110, 100]⟩ = D := ⟨_, rfl⟩
          have hDd : D.data.toList = S.data.toList ++ [32, 47, 47, 32, 101, 110, 100] := by rw [← hD, ByteArray.data_append]; simp
          have hDs : D.size ≤ 140737488351232 := by rw [← len_size, hDd, List.length_append, len_size]; simp; omega
          rw [← hDd] at hb1 hb2
          obtain ⟨⟨ys, o⟩, hT2⟩ : ∃ r, Lx.toks D.data.toList = r := ⟨_, rfl⟩
          rw [hT2] at hb1 hb2
          simp only at hb1 hb2
          subst hb2
          have hyl : ys.length ≤ 65537 := by have := toks_length D.data.toList; rw [hT2] at this; exact this
          have htk := lwTokensOk hfin.self D hDs hT2
          have HB1 := Lib.hid hb1
          have HV2 := Lib.hid (HV.out.below hw.b)
          clear hT2 hb1 hDd hbm hmem hDs
          go_wp2_with (first
            | (go_at_call 16; refine htk.mono ?_; clear htk; rintro e W6 ⟨yv, rfl, H6, hyv⟩)
            | (go_at_call 35; refine (lwBare H7 (hyv.below H7.b) (by omega)).mono ?_; rintro e W8 ⟨u2, rfl, -, H8, hu2⟩)
            | (go_at_call 35; refine (lwBare H6.self (HV2.out.below H6.b) (by omega)).mono ?_; rintro e W7 ⟨u1, rfl, H7, -, hu1⟩)
            | (go_at_call 25; refine (lwSame H8.self (hu1.below H8.b) hu2 (by rw [List.length_map]; omega) (by rw [List.length_map]; omega)).mono ?_; rw [HB1.out, decide_eq_true rfl]; rintro e W9 ⟨rfl, H9⟩; have H10 := hfin.trans (H6.trans (H7.trans (H8.trans H9))))
            | (go_at_call 3; refine (lwRuns H10).mono ?_; rintro e W11 ⟨rfl, H11⟩))
          go_ret
          exact ⟨rfl, H11⟩

end Go.Proofs.YtbhdkkkaeabkhaaGreatDoor
