/-
  The walk of coillaw2.SyntaxTokens.
  The walks of coillaw2's two, told.
-/
import Derived.Test.YtdncljdfmdgdaaaGreatDoorM22
import Derived.Test.YtdncljdfmdgdaaaGreatDoorM23
import Derived.Test.YtdncljdfmdgdaaaGreatDoorM26
namespace Go.Proofs.YtdncljdfmdgdaaaGreatDoor
open Go.RowKit Go.Shelf
set_option linter.unusedSimpArgs false
set_option linter.unusedVariables false

theorem toks_small {src : Lx.Bytes} {ts : List Lx.Tok} (h : Lx.toks src = (ts, none)) (hs : src.length ≤ 65536) : (∀ t ∈ ts, t.s.length ≤ 1000000000 ∧ -9223372036854775808 ≤ t.n ∧ t.n ≤ 9223372036854775807) ∧ ts.length ≤ 1000000 := by
  unfold Lx.toks at h
  rw [if_neg (by omega)] at h
  obtain ⟨hc, hp⟩ := Lx.go_parts _ _ _ _ _ h (by omega)
  refine ⟨fun t ht => ?_, by omega⟩
  obtain ⟨hf, hw, hl, -⟩ := hp t ht
  have key : ∀ {s : Lx.Bytes} {u : Lx.Tok}, Lx.Form s u → u.s.length ≤ 2 * s.length + 2 ∧ 0 ≤ u.n ∧ u.n ≤ 9223372036854775807 := by
    intro s u h
    cases h with
    | name c s hc hs hl => exact ⟨by simp; omega, by simp, by simp⟩
    | number c s hs hv hz => exact ⟨by simp, by simp, by simp only; omega⟩
    | text u hu =>
      refine ⟨?_, by simp, by simp⟩
      have h2 : ∀ u : Lx.Bytes, u.length ≤ (Lx.quoteIn u).length := by
        intro u
        induction u with
        | nil => simp
        | cons c u ih =>
          rw [Lx.quoteIn_cons', List.length_append, List.length_cons]
          split
          · simp; omega
          · split <;> simp <;> omega
      have := h2 u
      unfold Lx.quote
      simp
      omega
    | two => exact ⟨by simp, by simp, by simp⟩
    | sign c hc => exact ⟨by simp, by simp, by simp⟩
  obtain ⟨k1, k2, k3⟩ := key hf
  have e1 : t.bare.s = t.s := rfl
  have e2 : t.bare.n = t.n := rfl
  rw [e1] at k1
  rw [e2] at k2 k3
  omega
/-- A text that is told is cut into tokens that, joined, are it: the two calls. -/
theorem lexBack {w W : World} (h : LW w W) {l : List Lx.Bytes} {b : Lx.Bytes} (hl : Sx.Tks l) (ht : Sx.text l = (b, 0)) :
    Calls Tryz.prog 47 #[.string ⟨b.toArray⟩] W fun e W' => ∃ A k c, e = .returned (.tuple #[.slice A k c, .nilIface]) ∧ LW w W' ∧ Below W.heap.size W W' ∧
      ∀ X, LW w X → Below W'.heap.size W' X → Calls Tryz.prog 48 #[.slice A k c] X fun e X' => e = .returned (.tuple #[.string ⟨b.toArray⟩, .int .i64 0]) ∧ LW w X' ∧ Below X.heap.size X X' := by
  obtain ⟨h1, h2⟩ := Sx.text_back hl ht
  have hlen := Sx.text_len ht
  obtain ⟨⟨ts, o⟩, hT⟩ : ∃ r, Lx.toks b = r := ⟨_, rfl⟩
  rw [hT] at h1 h2
  simp only at h1 h2
  subst h1
  obtain ⟨hb, hn⟩ := toks_small hT hlen
  refine (lwTokens h ⟨b.toArray⟩ (by simp [ByteArray.size]; omega)).mono ?_
  have e : (⟨b.toArray⟩ : ByteArray).data.toList = b := rfl
  rw [e, hT]
  rintro e W' ⟨h3, hbel, h4, v, rfl, hr⟩
  have hin : ToksIn W' v ts := row_toks (w' := W') hr
  obtain ⟨A, k, c, rfl⟩ : ∃ A k c, v = .slice A k c := by
    rcases hin with ⟨_, a, c, rfl⟩ | ⟨g, c, cur, fr, rfl, _⟩
    · exact ⟨a, _, c, rfl⟩
    · exact ⟨_, _, c, rfl⟩
  refine ⟨A, k, c, rfl, h3, hbel, fun X hX hXb => ?_⟩
  have hin2 : ToksIn X (.slice A k c) ts := by
    rcases hin with h | ⟨g, cc, cur, fr, h5, h6, h7⟩
    · exact .inl h
    · exact .inr ⟨g, cc, cur, fr, h5, (hXb.block g (lt_of_block h6)).trans h6, h7⟩
  refine (lexJoin ts _ X hX.g.gs hX.n hin2 (by omega) hb).mono ?_
  rintro e X' ⟨he, hb'⟩
  rw [h2] at he
  exact ⟨he, hX.go hb', hb'⟩

theorem app_data2 (a b : ByteArray) : (a ++ b).data.toList = a.data.toList ++ b.data.toList := by rw [ByteArray.data_append]; simp
theorem StRow.new1 {w : World} {v0 v1 v2 v3 v4 v5 v6 : Value} {t : Sx.St} (h : IsSt w (.agg #[v0, v1, v2, v3, v4, v5, v6]) t) :
    StRow (w.alloc (.cells #[v0, v1, v2, v3, v4, v5, v6] 69)) (.slice (some ⟨w.heap.size, 0, none⟩) 1 1) [t] := by
  have hb := heap_alloc_new w (.cells #[v0, v1, v2, v3, v4, v5, v6] 69)
  refine ⟨_, 1, rfl, Nat.le_refl _, ?_⟩
  rw [IsSts, IsSts]
  exact ⟨⟨_, 0, v0, v1, v2, v3, v4, v5, v6, rfl, cell_of hb 0, cell_of hb 1, cell_of hb 2, cell_of hb 3, cell_of hb 4, cell_of hb 5, cell_of hb 6, IsSt.below (grown_below (World.grownBy_alloc w _ none)) _ _ h⟩, trivial⟩
/-- One box, the first one that the law has made. -/
structure OneSt (w : World) (c0 : Array Value) (X : World) : Prop where
  lw : LW w X
  k0 : X.heap[w.heap.size]? = some (.cells c0 26 (0, 0))
theorem OneSt.go {w X X' : World} {c0 : Array Value} (h : OneSt w c0 X) (hb : Below X.heap.size X X') : OneSt w c0 X' := ⟨h.lw.go hb, (hb.block _ (lt_of_block h.k0)).trans h.k0⟩
theorem five_one {w X : World} {a : Sx.Ty} {A1 A2 A3 : Option Addr} {c1 c2 c3 L : Nat} (h : OneSt w (boxT a A1 c1 A2 c2 A3 c3) X) (hL : w.heap.size = L) :
    X.cell? ⟨L, 0, none⟩ = some (.int .i64 a.kind) ∧ X.cell? ⟨L, 1, none⟩ = some (.string ⟨a.name.toArray⟩) ∧ X.cell? ⟨L, 2, none⟩ = some (.slice A1 a.names.length c1) ∧ X.cell? ⟨L, 3, none⟩ = some (.slice A2 a.embeds.length c2) ∧ X.cell? ⟨L, 4, none⟩ = some (.slice A3 a.parts.length c3) ∧ L < X.heap.size := by
  subst hL
  obtain ⟨a0, a1, a2, a3, a4⟩ := five_cells h.k0
  exact ⟨a0, a1, a2, a3, a4, lt_of_block h.k0⟩

set_option maxRecDepth 100000 in
set_option maxHeartbeats 16000000 in
theorem lawTokens2 (hruns : RunsOk) (l : List Sx.St) (v : Value) (t : Sx.Ty) (u : Value) (w : World) (hl : StsArg w v l) (ht : TyArg w u t) (hG : GL w) (hN : NG ≤ w.heap.size) :
    Calls Tryz.prog 10 #[v, u] w fun e w' => e = .returned (.bool true) ∧ LW w w' := by
  obtain ⟨hll, hll2, hfl⟩ := hl
  obtain ⟨htt, hft⟩ := ht
  obtain ⟨A1, c1, A2, c2, A3, c3, rfl, -⟩ := id htt.agg
  have hnum := hll.num
  obtain ⟨A, c, rfl, -, -⟩ := id hll
  obtain ⟨L, hL⟩ : ∃ L, w.heap.size = L := ⟨_, rfl⟩
  obtain ⟨k, hk⟩ : ∃ k, l.length = k := ⟨_, rfl⟩
  rw [hk] at hll hll2 ⊢
  have HRUN := Lib.hid (fun X (hX : OneSt w (boxT t A1 c1 A2 c2 A3 c3) X) => hruns.at hX.lw)
  have HSS := Lib.hid (fun X (hX : OneSt w (boxT t A1 c1 A2 c2 A3 c3) X) => (keepSizeS _ l (Nat.lt_succ_self _) hfl (by rw [hk]; exact hll2) 8000 _ X (by omega) (by omega) (hll.below hX.lw.b)).mono fun e w' (h : SizeIs 8000 (Sx.sizeSs l) X e w') => (show ∃ r : Nat, e = .returned (.int .i64 (r : Nat)) ∧ (r < 8000 → r = Sx.sizeSs l) ∧ r ≤ 1000000000000000 ∧ OneSt w (boxT t A1 c1 A2 c2 A3 c3) w' by obtain ⟨r, h1, h2, h3, h4⟩ := h; exact ⟨r, h1, h3, by omega, hX.go h4⟩))
  have HST := Lib.hid (fun X (hX : OneSt w (boxT t A1 c1 A2 c2 A3 c3) X) => (keepSize _ t (Nat.le_refl _) hft 8000 _ X (by omega) (by omega) (IsTy.below hX.lw.b _ _ htt)).mono fun e w' (h : SizeIs 8000 (Sx.size t) X e w') => (show ∃ r : Nat, e = .returned (.int .i64 (r : Nat)) ∧ (r < 8000 → r = Sx.size t) ∧ r ≤ 1000000000000000 ∧ OneSt w (boxT t A1 c1 A2 c2 A3 c3) w' by obtain ⟨r, h1, h2, h3, h4⟩ := h; exact ⟨r, h1, h3, by omega, hX.go h4⟩))
  have HLL := Lib.hid hll
  have HTT := Lib.hid htt
  have HNUM := Lib.hid hnum
  have HK := Lib.hid hk
  have HG := Lib.hid hG
  have HN := Lib.hid hN
  clear hfl hft hll htt hnum hk hruns hll2
  go_enter Tryz.func10, Tryz.ntmps10
  obtain ⟨w2, hw2⟩ : ∃ w2, w.alloc (.cells #[.int .i64 t.kind, .string ⟨t.name.toArray⟩, .slice A1 t.names.length c1, .slice A2 t.embeds.length c2, .slice A3 t.parts.length c3] 26) = w2 := ⟨_, rfl⟩
  have hst2 : OneSt w (boxT t A1 c1 A2 c2 A3 c3) w2 := by rw [← hw2]; exact ⟨(LW.refl HG.out HN.out).alloc _, heap_alloc_new w _⟩
  have H2 := Lib.hid hst2
  clear hst2 hG hN
  obtain ⟨x0, x1, x2, x3, x4, l1⟩ := five_one H2.out hL
  go_wp2_with fail
  refine (HSS.out w2 H2.out).mono ?_
  rintro e w3 ⟨r, rfl, hr1, hr2, hst3⟩
  have H3 := Lib.hid hst3
  have r0 : (0 : Int) ≤ (r : Int) := by omega
  have r1 : (r : Int) ≤ 1000000000000000 := by omega
  clear hst3 hw2
  clear x0 x1 x2 x3 x4 l1
  obtain ⟨x0, x1, x2, x3, x4, l1⟩ := five_one H3.out hL
  by_cases hra : r < 8000
  · have HRA := Lib.hid (show Sx.sizeSs l < 8000 by have := hr1 hra; omega)
    have ga : ¬ (8000 : Int) ≤ (r : Int) := by omega
    have ga2 : decide ((8000 : Int) ≤ (r : Int)) = false := by rw [decide_eq_false_iff_not]; omega
    clear hr1 hr2 hra
    go_wp2_with fail
    refine (HST.out w3 H3.out).mono ?_
    rintro e w4 ⟨q, rfl, hq1, hq2, hst4⟩
    have H4 := Lib.hid hst4
    have q0 : (0 : Int) ≤ (q : Int) := by omega
    have q1 : (q : Int) ≤ 1000000000000000 := by omega
    clear hst4
    clear x0 x1 x2 x3 x4 l1
    obtain ⟨x0, x1, x2, x3, x4, l1⟩ := five_one H4.out hL
    by_cases hrb : q < 8000
    · have HRB := Lib.hid (show Sx.size t < 8000 by have := hq1 hrb; omega)
      have gb : ¬ (8000 : Int) ≤ (q : Int) := by omega
      have gb2 : decide ((8000 : Int) ≤ (q : Int)) = false := by rw [decide_eq_false_iff_not]; omega
      clear hq1 hq2 hrb
      have hsl := Sx.length_sizeSs l
      have hkl : k ≤ 8000 := by have := HRA.out; have := HK.out; omega
      have k0 : (0 : Int) ≤ (k : Int) := by omega
      have k1 : (k : Int) ≤ 8000 := by omega
      have hslen := Sx.stmts_len SY l
      have HSL := Lib.hid (show (Sx.stmts SY l).length ≤ 900000000 by have := HRA.out; omega)
      clear hslen hsl
      obtain ⟨⟨s1, e1⟩, hse1⟩ : ∃ x, Sx.said (Sx.rightT NM 64 t) (Sx.typ t) = x := ⟨_, rfl⟩
      have HT1 := Lib.hid (fun (h : e1 = 0) => Sx.said_text (l := Sx.typ t) (r := Sx.rightT NM 64 t) (b := s1) (fun hr => Sx.tks_typ hr) (by rw [hse1, h]))
      have HTY := Lib.hid (fun X (hX : OneSt w (boxT t A1 c1 A2 c2 A3 c3) X) => (synType t _ X hX.lw.g.gs hX.lw.n (IsTy.below hX.lw.b _ _ HTT.out) (by have := HRB.out; omega)).mono fun e w' h => (show e = .returned (.tuple #[.string ⟨s1.toArray⟩, .int .i64 (e1 : Nat)]) ∧ OneSt w (boxT t A1 c1 A2 c2 A3 c3) w' from ⟨by rw [h.1, hse1], hX.go h.2⟩))
      obtain ⟨⟨s2, e2⟩, hse2⟩ : ∃ x, Sx.said (Sx.rightSs NM 64 l) (Sx.stmts SY l) = x := ⟨_, rfl⟩
      have HT2 := Lib.hid (fun (h : e2 = 0) => Sx.said_text (l := Sx.stmts SY l) (r := Sx.rightSs NM 64 l) (b := s2) (fun hr => Sx.tks_stmts l 64 hr HNUM.out) (by rw [hse2, h]))
      have HSY := Lib.hid (fun X (hX : OneSt w (boxT t A1 c1 A2 c2 A3 c3) X) => (synStmtsT l _ X hX.lw.g.gs hX.lw.n (HLL.out.below hX.lw.b) (by have := HRA.out; omega) HSL.out).mono fun e w' h => (show e = .returned (.tuple #[.string ⟨s2.toArray⟩, .int .i64 (e2 : Nat)]) ∧ OneSt w (boxT t A1 c1 A2 c2 A3 c3) w' from ⟨by rw [h.1, hse2], hX.go h.2⟩))
      clear hse1 hse2
      go_upto_if 34 with (go_at_call 14; refine (HTY.out w4 H4.out).mono ?_; rintro e w5 ⟨rfl, hst5⟩; have H5 := Lib.hid hst5; clear hst5; clear x0 x1 x2 x3 x4 l1; obtain ⟨x0, x1, x2, x3, x4, l1⟩ := five_one H5.out hL)
      go_cut [5, 6, 7, 8, 9, 10] (fun v5 v6 v7 v8 v9 v10 wx => OneSt w (boxT t A1 c1 A2 c2 A3 c3) wx)
      case first =>
        by_cases he1 : e1 = 0
        · obtain ⟨hr1, htx⟩ := HT1.out he1
          subst he1
          have HTX := Lib.hid htx
          have HTK := Lib.hid (Sx.tks_typ hr1)
          clear htx hr1
          go_wp2_with fail
          refine (lexBack H5.out.lw HTK.out HTX.out).mono ?_
          rintro e w6 ⟨Aj, kj, cj, rfl, h6, hb6, hj⟩
          have H6 := Lib.hid (H5.out.go hb6)
          have HJ := Lib.hid hj
          clear h6 hb6 hj
          go_wp2_with fail
          refine (HJ.out w6 H6.out.lw (Below.refl _ _)).mono ?_
          rintro e w7 ⟨rfl, h7, hb7⟩
          have H7 := Lib.hid (H6.out.go hb7)
          clear h7 hb7
          go_wp2_with fail
          go_meet
          exact H7.out
        · have hb : ((e1 : Int) == 0) = false := by rw [beq_eq_false_iff_ne]; omega
          have hne : ¬ (e1 : Int) = 0 := by omega
          clear he1
          go_wp2_with fail
          go_meet
          exact H5.out
      case rest =>
        have H6 := Lib.hid hcut
        clear hcut x0 x1 x2 x3 x4 l1
        go_wp2_with fail
        refine (HSY.out wc H6.out).mono ?_
        rintro e w7 ⟨rfl, hst7⟩
        have H7 := Lib.hid hst7
        clear hst7
        by_cases he2 : e2 = 0
        · obtain ⟨hr2, htx⟩ := HT2.out he2
          subst he2
          have hx2 := Sx.text_len htx
          have HTX := Lib.hid htx
          have HTK := Lib.hid (Sx.tks_stmts l 64 hr2 HNUM.out)
          have HR2 := Lib.hid hr2
          clear htx hr2
          go_wp2_with fail
          refine (lexBack H7.out.lw HTK.out HTX.out).mono ?_
          rintro e w8 ⟨Aj, kj, cj, rfl, h8, hb8, hj⟩
          have H8 := Lib.hid (H7.out.go hb8)
          have HJ := Lib.hid hj
          clear h8 hb8 hj
          go_wp2_with fail
          refine (HJ.out w8 H8.out.lw (Below.refl _ _)).mono ?_
          rintro e w9 ⟨rfl, h9, hb9⟩
          have H9 := Lib.hid (H8.out.go hb9)
          clear h9 hb9
          go_wp2_with fail
          go_loopg [15, 16, 17, 18] k (fun n v15 v16 v17 v18 wr => ∃ (i : Nat) (S : ByteArray), n = k - i ∧ v15 = .string S ∧ v16 = .int .i64 (i : Nat) ∧ i ≤ k ∧ Sx.text (Sx.stmts SY (l.take i)) = (S.data.toList, 0) ∧ (i = 0 → S.data.toList = []) ∧ OneSt w (boxT t A1 c1 A2 c2 A3 c3) wr)
          case atStart => exact ⟨0, ⟨#[]⟩, rfl, rfl, rfl, Nat.zero_le _, rfl, fun _ => rfl, H9.out⟩
          case round =>
            obtain ⟨i, S, hi, rfl, rfl, hik, htS, hS0, hstr⟩ := hrel
            have hSl := Sx.text_len htS
            have hSz : (S.size : Int) ≤ 65536 := by have := len_size S; omega
            have HI := Lib.hid hi
            have HS := Lib.hid htS
            have HS0 := Lib.hid hS0
            have HR := Lib.hid hstr
            have i0 : (0 : Int) ≤ (i : Int) := by omega
            clear hi htS hS0 hstr hSl
            by_cases hlt : i < k
            · have hii : (i : Int) < (k : Int) := by omega
              have hil : i < l.length := by have := HK.out; omega
              obtain ⟨g, off, B0, d0, B1, d1, B2, d2, B3, d3, rfl, hty, hc7⟩ := HLL.out.spot i hil
              rw [hL] at hc7
              obtain ⟨hg, x0, x1, x2, x3, x4, x5, x6⟩ := hc7 wr (by rw [← hL]; exact HR.out.lw.b)
              obtain ⟨one, ho1, ho2⟩ := Sx.stmts_step hil HR2.out HNUM.out HTX.out HS.out HS0.out
              have hol : Sx.sizeSs [l[i]'hil] ≤ 1000000 := by
                have := Sx.sizeS_mem (List.getElem_mem hil)
                have := HRA.out
                simp [Sx.sizeSs]
                omega
              have hol2 : (Sx.stmts SY [l[i]'hil]).length ≤ 900000000 := by have := Sx.stmts_len SY [l[i]'hil]; omega
              obtain ⟨s, hse⟩ : ∃ s, l[i]'hil = s := ⟨_, rfl⟩
              rw [hse] at x0 x1 x2 x3 x4 x5 x6 hty ho1 hol hol2
              have hcall := fun X (hX : OneSt w (boxT t A1 c1 A2 c2 A3 c3) X) => (synStmtsT [s] (.slice (some ⟨X.heap.size, 0, none⟩) 1 1) (X.alloc (.cells #[.int .i64 s.pos, .int .i64 s.kind, .string ⟨s.name.toArray⟩, .slice B0 s.t.length d0, .slice B1 s.x.length d1, .slice B2 s.body.length d2, .slice B3 s.els.length d3] 69)) (hX.lw.alloc _).g.gs (hX.lw.alloc _).n (StRow.new1 (IsSt.below hX.lw.b _ _ hty)) hol hol2).mono fun e w' h => (show e = .returned (.tuple #[.string ⟨one.toArray⟩, .int .i64 0]) ∧ OneSt w (boxT t A1 c1 A2 c2 A3 c3) w' from ⟨by rw [h.1, ho1]; rfl, (hX.go (grown_below (World.grownBy_alloc X _ none))).go h.2⟩)
              have HCALL := Lib.hid hcall
              have HO2 := Lib.hid ho2
              have hon : one.length ≤ 65536 := by have := Sx.text_len ho2; rw [List.length_append] at this; omega
              have hone : ((⟨one.toArray⟩ : ByteArray).size : Int) ≤ 65536 := by simp [ByteArray.size]; omega
              clear hcall ho1 ho2 hol hol2 hse hty hc7
              go_wp2_with fail
              refine (HCALL.out wr HR.out).mono ?_
              rintro e w5 ⟨rfl, hst5⟩
              have H5 := Lib.hid hst5
              clear hst5 x0 x1 x2 x3 x4 x5 x6 hg
              by_cases hi0 : 0 < i
              · have hi0i : (0 : Int) < (i : Int) := by omega
                have HO3 := HO2.out
                rw [if_pos hi0] at HO3
                have HO4 := Lib.hid HO3
                clear HO3
                go_wp2_with fail
                go_roundg (k - (i + 1))
                case measure => have := HI.out; omega
                case rel => exact ⟨i + 1, _, rfl, rfl, by simp, hlt, by rw [HO4.out, app_data2, app_data2], fun h => by omega, H5.out⟩
              · have hi0i : ¬ (0 : Int) < (i : Int) := by omega
                have HO3 := HO2.out
                rw [if_neg hi0] at HO3
                have HO4 := Lib.hid HO3
                clear HO3
                go_wp2_with fail
                go_roundg (k - (i + 1))
                case measure => have := HI.out; omega
                case rel => exact ⟨i + 1, _, rfl, rfl, by simp, hlt, by rw [HO4.out, app_data2], fun h => by omega, H5.out⟩
            · have hii : ¬ (i : Int) < (k : Int) := by omega
              have hS := HS.out
              rw [List.take_of_length_le (by have := HK.out; omega), HTX.out] at hS
              injection hS with hS _
              have hSS : (⟨s2.toArray⟩ : ByteArray) = S := by rw [hS]
              subst hSS
              clear hS
              go_wp2_with (go_at_call 3; refine (HRUN.out wr HR.out).mono ?_; rintro e w5 ⟨rfl, hw5⟩)
              go_ret
              exact ⟨rfl, hw5⟩
        · have hb : ((e2 : Int) != 0) = true := by rw [bne_iff_ne]; omega
          have hne : ¬ (e2 : Int) = 0 := by omega
          clear he2
          go_wp2_with (go_at_call 3; refine (HRUN.out w7 H7.out).mono ?_; rintro e w8 ⟨rfl, hw8⟩)
          go_ret
          exact ⟨rfl, hw8⟩
    · have gb : (8000 : Int) ≤ (q : Int) := by omega
      have gb2 : decide ((8000 : Int) ≤ (q : Int)) = true := by rw [decide_eq_true_iff]; omega
      go_wp2_with (go_at_call 3; refine (HRUN.out w4 H4.out).mono ?_; rintro e w5 ⟨rfl, hw5⟩)
      go_ret
      exact ⟨rfl, hw5⟩
  · have ga : (8000 : Int) ≤ (r : Int) := by omega
    have ga2 : decide ((8000 : Int) ≤ (r : Int)) = true := by rw [decide_eq_true_iff]; omega
    go_wp2_with (go_at_call 3; refine (HRUN.out w3 H3.out).mono ?_; rintro e w5 ⟨rfl, hw5⟩)
    go_ret
    exact ⟨rfl, hw5⟩

end Go.Proofs.YtdncljdfmdgdaaaGreatDoor

namespace Go.Proofs.YtdncljdfmdgdaaaGreatDoor
open Go.RowKit Go.Shelf
set_option linter.unusedSimpArgs false
set_option linter.unusedVariables false

theorem size3 (w : World) (a b c : Obj) : (((w.alloc a).alloc b).alloc c).heap.size = w.heap.size + 1 + 1 + 1 := by simp
set_option maxRecDepth 100000 in
set_option maxHeartbeats 4000000 in
theorem lawTwo (k : Int) (x y : Sx.Ex) (v u : Value) (w : World) (hv : IsEx w v x) (hu : IsEx w u y) :
    Calls Tryz.prog 21 #[.int .i64 k, v, u] w fun e w' => ∃ g, e = .returned (.agg #[.int .i64 0, .int .i64 k, .int .i64 0, .string ⟨#[]⟩, .slice none 0 0, .slice none 0 0, .slice (some ⟨g, 0, none⟩) 2 2]) ∧ ExRow w' (.slice (some ⟨g, 0, none⟩) 2 2) [x, y] ∧ Below w.heap.size w w' := by
  obtain ⟨At, ct, An, cn, Ap, cp, rfl, -⟩ := hv.agg
  obtain ⟨Bt, dt, Bn, dn, Bp, dp, rfl, -⟩ := hu.agg
  have HV := Lib.hid hv
  have HU := Lib.hid hu
  clear hv hu
  go_enter Tryz.func21, Tryz.ntmps21
  go_wp2
  refine bodyPost_ret (v := .agg #[.int .i64 0, .int .i64 k, .int .i64 0, .string ⟨#[]⟩, .slice none 0 0, .slice none 0 0, .slice (some ⟨_, 0, none⟩) 2 2]) (by simp [results, Tryz.results21, go_sem]; rfl) rfl ⟨_, rfl, ?_, ?_⟩
  · have hb : Below w.heap.size w (((w.alloc (.cells #[.int .i64 x.pos, .int .i64 x.kind, .int .i64 x.n, .string ⟨x.s.toArray⟩, .slice At x.t.length ct, .slice An x.names.length cn, .slice Ap x.parts.length cp] 39)).alloc
        (.cells #[.int .i64 y.pos, .int .i64 y.kind, .int .i64 y.n, .string ⟨y.s.toArray⟩, .slice Bt y.t.length dt, .slice Bn y.names.length dn, .slice Bp y.parts.length dp] 39)).alloc
        (.cells #[.int .i64 0, .int .i64 k, .int .i64 0, .string ⟨#[]⟩, .slice none 0 0, .slice none 0 0, .slice (some ⟨w.heap.size + 1 + 1 + 1, 0, none⟩) 2 2] 39)) :=
      (((Below.refl _ _).alloc (Nat.le_refl _) _).alloc (by simp) _).alloc (by simp; omega) _
    have h := ExRow.new2 (IsEx.below hb _ _ HV.out) (IsEx.below hb _ _ HU.out)
    rw [size3] at h
    exact h
  · exact ((((Below.refl _ _).alloc (Nat.le_refl _) _).alloc (by simp) _).alloc (by simp; omega) _).alloc (by simp; omega) _

set_option maxRecDepth 100000 in
set_option maxHeartbeats 4000000 in
theorem lawTold (x : Sx.Ex) (s : Lx.Bytes) (v : Value) (w : World) (hG : GS w) (hN : NG ≤ w.heap.size) (hv : IsEx w v x) (hz : Sx.sizeX x ≤ 1000000) (hlen : (Sx.expr SY x).length ≤ 900000000) (hs : Sx.said (Sx.rightX NM 64 x) (Sx.expr SY x) = (s, 0)) :
    Calls Tryz.prog 20 #[v, .string ⟨s.toArray⟩] w fun e w' => e = .returned (.bool true) ∧ Below w.heap.size w w' := by
  have hx := fun X (hX : Below w.heap.size w X) => synExpr x v X (hG.below hX) (Nat.le_trans hN hX.size) (IsEx.below hX _ _ hv) hz hlen
  rw [hs] at hx
  obtain ⟨At, ct, An, cn, Ap, cp, rfl, -⟩ := hv.agg
  obtain ⟨w2, hw2⟩ : ∃ w2, w.alloc (.cells #[.int .i64 x.pos, .int .i64 x.kind, .int .i64 x.n, .string ⟨x.s.toArray⟩, .slice At x.t.length ct, .slice An x.names.length cn, .slice Ap x.parts.length cp] 39) = w2 := ⟨_, rfl⟩
  have hb2 : Below w.heap.size w w2 := by rw [← hw2]; exact grown_below (World.grownBy_alloc w _ none)
  have hbox := heap_alloc_new w (.cells #[.int .i64 x.pos, .int .i64 x.kind, .int .i64 x.n, .string ⟨x.s.toArray⟩, .slice At x.t.length ct, .slice An x.names.length cn, .slice Ap x.parts.length cp] 39)
  rw [hw2] at hbox
  obtain ⟨x0, x1, x2, x3, x4, x5, x6⟩ := seven_cells hbox
  have hl := lt_of_block hbox
  have HX := Lib.hid (hx w2 hb2)
  have HB := Lib.hid hb2
  clear hx hb2 hbox hG hs hlen hz hv
  go_enter Tryz.func20, Tryz.ntmps20
  go_wp2_with (go_at_call 23; refine HX.out.mono ?_; rintro e w3 ⟨rfl, hb3⟩)
  go_ret
  exact ⟨by simp, HB.out.trans (hb3.mono HB.out.size)⟩

end Go.Proofs.YtdncljdfmdgdaaaGreatDoor
