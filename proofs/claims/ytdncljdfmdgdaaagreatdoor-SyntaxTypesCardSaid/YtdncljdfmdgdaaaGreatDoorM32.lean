/-
  The walks of block, stmts.
-/
/-
 The walks of block, stmts.
-/
import Derived.Test.YtdncljdfmdgdaaaGreatDoorM21
import Derived.Test.YtdncljdfmdgdaaaGreatDoorM31
namespace Go.Proofs.YtdncljdfmdgdaaaGreatDoor
open Go.RowKit Go.Shelf Go.WideMaps
set_option linter.unusedSimpArgs false
set_option linter.unusedVariables false
theorem oSt : Other 69 := ⟨by decide, by decide⟩
def Sx.okS (s : Sx.St) : Prop := ∃ d, Sx.rightS NM d s = true
theorem Sx.rightSs_mem {d : Nat} : ∀ {l : List Sx.St}, Sx.rightSs NM d l = true → ∀ p ∈ l, Sx.rightS NM d p = true
 | x :: l, h, p, hp => by
  rw [Sx.rightSs, Bool.and_eq_true] at h
  rcases List.mem_cons.1 hp with rfl | hp
  ·exact h.1
  ·exact Sx.rightSs_mem h.2 p hp
structure Sx.Good (s : Sx.St) : Prop where
 k : 1 ≤ s.kind ∧ s.kind ≤ 7
 x : s.x.length = 1 ∧ ∀ h : 0 < s.x.length, Sx.rightX NM 64 (s.x[0]'h) = true
 nm : (s.kind = 1 ∨ s.kind = 2) → NM.small s.name = true
 t : s.t.length = 0 ∨ (s.kind = 1 ∧ s.t.length = 1 ∧ Sx.right0 s.t = true)
 b : s.kind = 4 ∨ s.kind = 5 ∨ s.body = []
 e : s.kind = 4 ∨ s.els = []
 bs : ∀ p ∈ s.body, Sx.okS p
 es : ∀ p ∈ s.els, Sx.okS p
theorem Sx.okS.good {s : Sx.St} (h : Sx.okS s) : Sx.Good s := by
 obtain ⟨d, h⟩ := h
 rw [Sx.rightS_eq] at h
 unfold Sx.restS at h
 simp only [Bool.and_eq_true, Bool.or_eq_true, decide_eq_true_eq] at h
 obtain ⟨h0, h1, h2, h3, h4, h5, h6, h7, h8, h9⟩ := h
 refine ⟨h3, ⟨h1, ?_⟩, fun hk => by rw [if_pos hk] at h4; exact h4, ?_, ?_, ?_, fun p hp => ⟨_, Sx.rightSs_mem h8 p hp⟩, fun p hp => ⟨_, Sx.rightSs_mem h9 p hp⟩⟩
 ·intro h; rw [Sx.head0_at]; exact h2
 ·rcases h5 with h | h
  ·exact .inl h
  ·exact .inr h
 ·rcases h6 with (h | h) | h
  ·exact .inl h
  ·exact .inr (.inl h)
  ·exact .inr (.inr (List.length_eq_zero_iff.1 h))
 ·rcases h7 with h | h
  ·exact .inl h
  ·exact .inr (List.length_eq_zero_iff.1 h)
def Sx.braced (l : List Sx.St) : List Lx.Bytes := [[123]] ++ Sx.stmts SY l ++ [[125]]
theorem Sx.stmts_append (S : Sx.Says) : ∀ (l m : List Sx.St), Sx.stmts S (l ++ m) = Sx.stmts S l ++ Sx.stmts S m
 | [], m => by simp [Sx.stmts]
 | x :: l, m => by rw [List.cons_append, Sx.stmts, Sx.stmts, Sx.stmts_append S l m, List.append_assoc]
theorem Sx.stmts_take {l : List Sx.St} {m : Nat} (h : m < l.length) : Sx.stmts SY (l.take (m + 1)) = Sx.stmts SY (l.take m) ++ Sx.stmt SY l[m] := by
 rw [List.take_succ_eq_append_getElem h, Sx.stmts_append]
 simp [Sx.stmts]
theorem Sx.stmts_le (l : List Sx.St) (m : Nat) : (Sx.stmts SY (l.take m)).length ≤ (Sx.stmts SY l).length := by
 conv => rhs; rw [← List.take_append_drop m l, Sx.stmts_append, List.length_append]
 omega
theorem Sx.first0 : ∀ {x : List Sx.Ex} (h : 0 < x.length), Sx.first SY 0 x = Sx.expr SY (x[0]'h)
 | a :: l, h => by rw [Sx.first_head 0 h]; unfold Sx.part; rw [if_neg (by omega)]
theorem Sx.stmt_eq (s : Sx.St) (h : 0 < s.x.length) : Sx.stmt SY s =
  (if s.kind = 1 then [[108, 101, 116], s.name] ++ Sx.typL s.t ++ [[61]] else if s.kind = 2 then [s.name, [61]] else if s.kind = 3 then [[112, 114, 105, 110, 116]] else if s.kind = 4 then [[105, 102]]
   else if s.kind = 5 then [[119, 104, 105, 108, 101]] else if s.kind = 6 then [[114, 101, 116, 117, 114, 110]] else []) ++
  Sx.expr SY (s.x[0]'h) ++
  (if s.kind ≠ 4 ∧ s.kind ≠ 5 then [[59]] else if s.els.isEmpty then Sx.braced s.body
   else Sx.braced s.body ++ [[101, 108, 115, 101]] ++ Sx.braced s.els) := by
 rw [← Sx.first0 h]
 cases s; rw [Sx.stmt]; simp only [Sx.braced, List.append_assoc]; rfl
theorem Sx.nameS_len (s : Sx.St) : s.name.length ≤ Sx.sizeS s := by
 have h1 := Sx.sizeS_parts s
 omega
def StmtsOk (W0 : World) (b : Nat) (xs : List Sx.St) : Prop := ∀ (v : Value) (l : List Lx.Bytes) (w : World), (∀ s ∈ xs, Sx.okS s) → StRow W0 v xs → Sx.sizeSs xs ≤ 1000000 → Wrote W0 b l.length l w → l.length + (Sx.stmts SY xs).length ≤ 900000000 →
 Calls Tryz.prog 66 #[.pointer (some ⟨b, 0, none⟩), v] w fun e w' => e = .returned (.tuple #[]) ∧ Wrote W0 b (l ++ Sx.stmts SY xs).length (l ++ Sx.stmts SY xs) w' ∧ KeepW w w'
def BlockOk (W0 : World) (b : Nat) (xs : List Sx.St) : Prop := ∀ (v : Value) (l : List Lx.Bytes) (w : World), (∀ s ∈ xs, Sx.okS s) → StRow W0 v xs → Sx.sizeSs xs ≤ 1000000 → Wrote W0 b l.length l w → l.length + (Sx.braced xs).length ≤ 900000000 →
 Calls Tryz.prog 121 #[.pointer (some ⟨b, 0, none⟩), v] w fun e w' => e = .returned (.tuple #[]) ∧ Wrote W0 b (l ++ Sx.braced xs).length (l ++ Sx.braced xs) w' ∧ KeepW w w'
set_option maxRecDepth 100000 in
set_option maxHeartbeats 8000000 in
theorem zhsZ {W0 : World} {b : Nat} {xs : List Sx.St} (ih : StmtsOk W0 b xs) : BlockOk W0 b xs := by
 intro v l w hr ht hz h hc
 have hlen : (Sx.braced xs).length = (Sx.stmts SY xs).length + 2 := by simp [Sx.braced]
 obtain ⟨m, hm⟩ : ∃ m, Sx.stmts SY xs = m := ⟨_, rfl⟩
 have hwi : Sx.braced xs = [[123]] ++ m ++ [[125]] := by unfold Sx.braced; rw [hm]
 rw [hm] at hlen
 have hb1 : l.length + 1 ≤ 1000000000 := by omega
 have hb2 : (l ++ [[123]]).length + m.length ≤ 900000000 := by simp; omega
 have hb3 : (l ++ [[123]] ++ m).length + 1 ≤ 1000000000 := by simp; omega
 have hE : ∀ w, Wrote W0 b (l ++ [[123]]).length (l ++ [[123]]) w → Calls Tryz.prog 66 #[.pointer (some ⟨b, 0, none⟩), v] w fun e w' => e = .returned (.tuple #[]) ∧ Wrote W0 b (l ++ [[123]] ++ m).length (l ++ [[123]] ++ m) w' ∧ KeepW w w' := fun w hw => by
  have := ih v (l ++ [[123]]) w hr ht hz hw (by rw [hm]; exact hb2)
  rwa [hm] at this
 obtain ⟨A, c, rfl, -, -⟩ := ht
 have HE := Lib.hid hE
 have HWI := Lib.hid hwi
 have HX := Lib.hid h
 have hbl := h.lt
 clear hE hwi ih hr hm hc hlen hz h
 go_enter Tryz.func121, Tryz.ntmps121
 go_upto_region 1 with (go_at_call 100; refine (put1 (s := [123]) HX.out ⟨by simp, by simp⟩ hb1).mono ?_; rintro e w3 ⟨rfl, hW3, hk3⟩)
 have H3 := Lib.hid hW3.tight
 have HK3 := Lib.hid hk3
 have hbl3 := hW3.lt
 clear hW3 hk3 hbl
 go_upto_region 2 with (go_at_call 66; refine (HE.out w3 H3.out).mono ?_; rintro e w4 ⟨rfl, hW4, hk4⟩)
 have H4 := Lib.hid hW4
 have HK4 := Lib.hid (HK3.out.trans hk4)
 have hbl4 := hW4.lt
 clear hW4 hk4 hbl3
 go_wp2_with (go_at_call 100; refine (put1 (s := [125]) H4.out ⟨by simp, by simp⟩ hb3).mono ?_; rintro e w5 ⟨rfl, hW5, hk5⟩)
 go_end0
 refine ⟨rfl, ?_, HK4.out.trans hk5⟩
 rw [HWI.out]
 simpa [List.append_assoc] using hW5.tight
set_option maxRecDepth 100000 in
set_option maxHeartbeats 32000000 in
theorem zhtZ {W0 : World} {b : Nat} {xs : List Sx.St} (hG : GS W0) (hN : NG ≤ W0.heap.size) (ihb : ∀ s ∈ xs, BlockOk W0 b s.body) (ihe : ∀ s ∈ xs, BlockOk W0 b s.els) : StmtsOk W0 b xs := by
 intro v l w hr ht hz h hc
 have hxl := Sx.length_sizeSs xs
 obtain ⟨A, c, rfl, hcap, hrow⟩ := ht
 have ht : StRow W0 (.slice A xs.length c) xs := ⟨A, c, rfl, hcap, hrow⟩
 obtain ⟨k, hk⟩ : ∃ k, xs.length = k := ⟨_, rfl⟩
 rw [hk] at ht ⊢
 have hki : (k : Int) ≤ 1000000 := by omega
 have hk0 : (0 : Int) ≤ (k : Int) := by omega
 obtain ⟨lf, hlf⟩ : ∃ lf, (Sx.stmts SY xs).length = lf := ⟨_, rfl⟩
 have hbf : l.length + lf ≤ 900000000 := by omega
 have hbl0 := h.lt
 have HX := Lib.hid h
 have HK := Lib.hid hk
 have HP := Lib.hid ht
 have HR := Lib.hid hr
 have HZ := Lib.hid hz
 have HIB := Lib.hid ihb
 have HIE := Lib.hid ihe
 have HG := Lib.hid hG
 have HN := Lib.hid hN
 have HLF := Lib.hid hlf
 have HS := Lib.hid (show Wrote W0 b (l ++ Sx.stmts SY (xs.take 0)).length (l ++ Sx.stmts SY (xs.take 0)) w by simpa [Sx.stmts] using h)
 clear h hr ht hz hc hk ihb ihe hG hN hxl hcap hrow hlf
 go_enter Tryz.func66, Tryz.ntmps66
 go_wp2_with fail
 go_loopg [10] k (fun i v wr => ∃ (m : Nat), i = k - m ∧ v = .int .i64 (m : Int) ∧ m ≤ k ∧ Wrote W0 b (l ++ Sx.stmts SY (xs.take m)).length (l ++ Sx.stmts SY (xs.take m)) wr ∧ KeepW w wr)
 case atStart => exact ⟨0, rfl, rfl, Nat.zero_le _, HS.out, KeepW.refl _⟩
 case round =>
  obtain ⟨m, hi, rfl, hm, hW, hkw⟩ := hrel
  have HI := Lib.hid hi
  have m0 : (0 : Int) ≤ (m : Int) := by omega
  have hblr := hW.lt
  have HKR := Lib.hid hkw
  have HWR := Lib.hid hW
  clear hi hW hkw
  by_cases hlt : m < k
  ·have hmi : (m : Int) < (k : Int) := by omega
   have hmp : m < xs.length := by have := HK.out; omega
   have hle2 := Sx.stmts_le xs (m + 1)
   obtain ⟨g, off, At, ct, Ax, cx, Ab, cb, Ae, ce, rfl, hty, hc7⟩ := HP.out.spot m hmp
   obtain ⟨s, hse⟩ : ∃ s, xs[m]'hmp = s := ⟨_, rfl⟩
   have hmem : s ∈ xs := by rw [← hse]; exact List.getElem_mem hmp
   have hpt := Sx.stmts_take hmp
   rw [hse] at hc7 hty hpt
   have hgd := (HR.out s hmem).good
   obtain ⟨hk17, ⟨hx1, hxr⟩, hnm, htg, hbg, heg, hbs, hes⟩ := hgd
   obtain ⟨hg, c0, c1, c2, c3, c4, c5, c6⟩ := hc7 wr HWR.out.below
   have hsz := Sx.sizeS_mem hmem
   have hspl := Sx.sizeS_parts s
   have hsz6 : Sx.sizeS s ≤ 1000000 := by have := HZ.out; omega
   have hnl := Sx.nameS_len s
   obtain ⟨At', ct', Ax', cx', Ab', cb', Ae', ce', hagg, htt, hxx, hbb, hee⟩ := hty.agg
   injection hagg with hagg
   simp only [Array.mk.injEq, List.cons.injEq, and_true, true_and] at hagg
   obtain ⟨ea, eb, ec, ed⟩ := hagg
   injection ea with ea1 _ ea2
   injection eb with eb1 _ eb2
   injection ec with ec1 _ ec2
   injection ed with ed1 _ ed2
   subst ea1 ea2 eb1 eb2 ec1 ec2 ed1 ed2
   have hxp : 0 < s.x.length := by omega
   obtain ⟨gX, offX, AtX, ctX, AnX, cnX, AqX, cqX, rfl, htyX, hcX⟩ := hxx.spot 0 hxp
   have hstq := Sx.stmt_eq s hxp
   have hmemX := List.getElem_mem hxp
   have hxr2 := hxr hxp
   obtain ⟨x0e, hx0e⟩ : ∃ x, s.x[0]'hxp = x := ⟨_, rfl⟩
   rw [hx0e] at hcX htyX hstq hmemX hxr2
   have hxz : Sx.sizeX x0e ≤ 1000000 := by have := Sx.sizeX_mem hmemX; omega
   have hEXP := zfcZ (b := b) HG.out HN.out _ x0e (Nat.le_refl _)
   obtain ⟨qx, hqx⟩ : ∃ q, Sx.expr SY x0e = q := ⟨_, rfl⟩
   obtain ⟨qb, hqb⟩ : ∃ q, Sx.braced s.body = q := ⟨_, rfl⟩
   obtain ⟨qe, hqe⟩ : ∃ q, Sx.braced s.els = q := ⟨_, rfl⟩
   rw [hqx, hqb, hqe] at hstq
   rw [hpt] at hle2
   obtain ⟨lm, hlm⟩ : ∃ lm, Sx.stmts SY (xs.take m) = lm := ⟨_, rfl⟩
   rw [hlm, HLF.out] at hle2
   rw [hlm] at hpt
   simp only [List.length_append] at hle2
   have HW1 := Lib.hid (show Wrote W0 b (l ++ lm).length (l ++ lm) wr by rw [← hlm]; exact HWR.out)
   obtain ⟨L, hL⟩ : ∃ L, wr.heap.size = L := ⟨_, rfl⟩
   obtain ⟨tl, htl⟩ : ∃ n, s.t.length = n := ⟨_, rfl⟩
   obtain ⟨bl, hbl⟩ : ∃ n, s.body.length = n := ⟨_, rfl⟩
   obtain ⟨el, hel⟩ : ∃ n, s.els.length = n := ⟨_, rfl⟩
   rw [hx1] at c4
   rw [htl] at c3 htt
   rw [hbl] at c5 hbb
   rw [hel] at c6 hee
   rw [htl] at htg
   have HCX := Lib.hid hcX
   have HTYX := Lib.hid htyX
   have HBS := Lib.hid (fun l w (hw : Wrote W0 b l.length l w) (hc : l.length + qb.length ≤ 900000000) => by
    have := HIB.out s hmem _ l w hbs hbb (by omega) hw (by rw [hqb]; exact hc)
    rwa [hqb] at this)
   have HES := Lib.hid (fun l w (hw : Wrote W0 b l.length l w) (hc : l.length + qe.length ≤ 900000000) => by
    have := HIE.out s hmem _ l w hes hee (by omega) hw (by rw [hqe]; exact hc)
    rwa [hqe] at this)
   have HEX := Lib.hid (fun u l w (hu : IsEx W0 u x0e) (hw : Wrote W0 b l.length l w) (hc : l.length + qx.length ≤ 900000000) => by
    have := hEXP u l w ⟨64, hxr2⟩ hu hxz hw (by rw [hqx]; exact hc)
    rwa [hqx] at this)
   have HBL := Lib.hid hbl
   clear hcX htyX hEXP hty hc7 hlm hmem hbs hes hxx hbb hee hxr hx0e hqx hqb hqe hxr2 hmemX hxz hsz hspl hbl hse hx1 hxp
   by_cases hkd1 : s.kind = 1
   ·rw [hkd1] at c1 hstq
    rcases htg with htg | ⟨-, htg, htr⟩
    ·skip
     subst htg
     have hb0 : bl = 0 := by
      rcases hbg with h | h | h
      ·omega
      ·omega
      ·rw [← HBL.out, h]; rfl
     have he0 : el = 0 := by
      rcases heg with h | h
      ·omega
      ·rw [← hel, h]; rfl
     subst hb0 he0
     obtain ⟨w4, hw4⟩ : ∃ w4, wr.alloc (.cells #[.int .i64 s.pos, .int .i64 1, .string ⟨s.name.toArray⟩, .slice At 0 ct, .slice (some ⟨gX, offX, none⟩) 1 cx, .slice Ab 0 cb, .slice Ae 0 ce] 69) = w4 := ⟨_, rfl⟩
     have hlv := Live.first HW1.out #[.int .i64 s.pos, .int .i64 1, .string ⟨s.name.toArray⟩, .slice At 0 ct, .slice (some ⟨gX, offX, none⟩) 1 cx, .slice Ab 0 cb, .slice Ae 0 ce] 69 hw4
     rw [hL] at hlv
     have H4 := Lib.hid hlv
     clear hlv
     have hht0 : Sx.typL s.t = [] := by rw [List.length_eq_zero_iff.1 htl]; rfl
     have hst : Sx.stmt SY s = [[108, 101, 116], s.name] ++ [[61]] ++ qx ++ [[59]] := by
      rw [hstq]
      simp [hht0]
     rw [hst] at hpt hle2
     simp only [List.length_append, List.length_cons, List.length_nil] at hle2
     have HPT := Lib.hid hpt
     have hnmo : s.name ≠ [] ∧ s.name.length ≤ 1000000000 := ⟨NM.ok.small _ (hnm (.inl hkd1)), by omega⟩
     have HNMO := Lib.hid hnmo
     have hb1 : (l ++ lm).length + 2 ≤ 1000000000 := by simp; omega
     have hb2 : (l ++ lm ++ [[108, 101, 116], s.name]).length + 1 ≤ 1000000000 := by simp; omega
     have hb3 : (l ++ lm ++ [[108, 101, 116], s.name] ++ [[61]]).length + qx.length ≤ 900000000 := by simp; omega
     have hb4 : (l ++ lm ++ [[108, 101, 116], s.name] ++ [[61]] ++ qx).length + 1 ≤ 1000000000 := by simp; omega
     clear hnmo hpt hst hstq hnm hbg heg hkd1 hk17 hle2 hnl hsz6 hel hht0
     obtain ⟨x0, x1, x2, x3, x4, x5, x6⟩ := zbZ H4.out.b1
     obtain ⟨hl1, hl2, hbl⟩ := H4.out.lt
     obtain ⟨dg, d0, d1, d2, d3, d4, d5, d6⟩ := HCX.out w4 H4.out.wr.below
     rw [Nat.zero_mul, Nat.add_zero] at d0 d1 d2 d3 d4 d5 d6
     go_upto_region 5 with fail
     have HD4 := Lib.hid H4.out.drew
     go_region_with (go_at_call 100; refine (HD4.out.lput2 [108, 101, 116] s.name ⟨by simp, by simp⟩ HNMO.out hb1).mono ?_; rintro e w5 ⟨rfl, hW5, hk5⟩)
     have H5 := Lib.hid (HD4.out.go oSt oSt hW5 hk5)
     clear hW5 hk5
     clear x0 x1 x2 x3 x4 x5 x6 hl1 hl2 hbl d0 d1 d2 d3 d4 d5 d6 dg
     obtain ⟨x0, x1, x2, x3, x4, x5, x6⟩ := zbZ H5.out.b1
     obtain ⟨hl1, hl2, hbl⟩ := H5.out.lt
     obtain ⟨dg, d0, d1, d2, d3, d4, d5, d6⟩ := HCX.out w5 H5.out.wr.below
     rw [Nat.zero_mul, Nat.add_zero] at d0 d1 d2 d3 d4 d5 d6
     go_wp2_with fail
     clear x0 x1 x2 x3 x4 x5 x6 hl1 hl2 hbl d0 d1 d2 d3 d4 d5 d6 dg
     have HLS := Lib.hid (show Live W0 b (l ++ lm ++ [[108, 101, 116], s.name] ++ Sx.typL (s.t.take 0)) wr w5 L #[.int .i64 s.pos, .int .i64 1, .string ⟨s.name.toArray⟩, .slice At 0 ct, .slice (some ⟨gX, offX, none⟩) 1 cx, .slice Ab 0 cb, .slice Ae 0 ce] 69 L #[.int .i64 s.pos, .int .i64 1, .string ⟨s.name.toArray⟩, .slice At 0 ct, .slice (some ⟨gX, offX, none⟩) 1 cx, .slice Ab 0 cb, .slice Ae 0 ce] 69 by simpa [Sx.typL] using H5.out)
     obtain ⟨wo, hwo⟩ : ∃ wo : World, wo = wr := ⟨_, rfl⟩
     rw [← hwo] at HLS
     have HWO := Lib.hid hwo
     clear hwo
     go_loopg [28] 0 (fun i v wx => ∃ (j : Nat), i = 0 - j ∧ v = .int .i64 (j : Int) ∧ j ≤ 0 ∧ Live W0 b (l ++ lm ++ [[108, 101, 116], s.name] ++ Sx.typL (s.t.take j)) wo wx L #[.int .i64 s.pos, .int .i64 1, .string ⟨s.name.toArray⟩, .slice At 0 ct, .slice (some ⟨gX, offX, none⟩) 1 cx, .slice Ab 0 cb, .slice Ae 0 ce] 69 L #[.int .i64 s.pos, .int .i64 1, .string ⟨s.name.toArray⟩, .slice At 0 ct, .slice (some ⟨gX, offX, none⟩) 1 cx, .slice Ab 0 cb, .slice Ae 0 ce] 69)
     case atStart => exact ⟨0, rfl, rfl, Nat.zero_le _, HLS.out⟩
     case round =>
      obtain ⟨j, hij, rfl, hj, hlive⟩ := hrel
      have HIJ := Lib.hid hij
      have HLJ := Lib.hid hlive
      clear hij hlive
      obtain rfl : j = 0 := by omega
      have H7 := Lib.hid (show Live W0 b (l ++ lm ++ [[108, 101, 116], s.name]) wo wr L #[.int .i64 s.pos, .int .i64 1, .string ⟨s.name.toArray⟩, .slice At 0 ct, .slice (some ⟨gX, offX, none⟩) 1 cx, .slice Ab 0 cb, .slice Ae 0 ce] 69 L #[.int .i64 s.pos, .int .i64 1, .string ⟨s.name.toArray⟩, .slice At 0 ct, .slice (some ⟨gX, offX, none⟩) 1 cx, .slice Ab 0 cb, .slice Ae 0 ce] 69 by simpa [Sx.typL] using HLJ.out)
      clear HLJ
      obtain ⟨w7, hw7⟩ : ∃ w7, wr = w7 := ⟨_, rfl⟩
      rw [hw7] at H7 ⊢
      clear hw7
      obtain ⟨x0, x1, x2, x3, x4, x5, x6⟩ := zbZ H7.out.b1
      obtain ⟨hl1, hl2, hbl⟩ := H7.out.lt
      obtain ⟨dg, d0, d1, d2, d3, d4, d5, d6⟩ := HCX.out w7 H7.out.wr.below
      rw [Nat.zero_mul, Nat.add_zero] at d0 d1 d2 d3 d4 d5 d6
      go_upto_region 22 with (go_at_call 100; refine (H7.out.lput1 [61] ⟨by simp, by simp⟩ hb2).mono ?_; rintro e w8 ⟨rfl, hW8, hk8⟩)
      have H8 := Lib.hid (H7.out.go oSt oSt hW8 hk8)
      clear hW8 hk8
      clear x0 x1 x2 x3 x4 x5 x6 hl1 hl2 hbl d0 d1 d2 d3 d4 d5 d6 dg
      obtain ⟨x0, x1, x2, x3, x4, x5, x6⟩ := zbZ H8.out.b1
      obtain ⟨hl1, hl2, hbl⟩ := H8.out.lt
      obtain ⟨dg, d0, d1, d2, d3, d4, d5, d6⟩ := HCX.out w8 H8.out.wr.below
      rw [Nat.zero_mul, Nat.add_zero] at d0 d1 d2 d3 d4 d5 d6
      go_upto_region 24 with (go_at_call 64; refine (HEX.out _ _ w8 HTYX.out H8.out.wr hb3).mono ?_; rintro e w9 ⟨rfl, hW9, hk9⟩)
      have H9 := Lib.hid (H8.out.go oSt oSt hW9 hk9)
      clear hW9 hk9
      clear x0 x1 x2 x3 x4 x5 x6 hl1 hl2 hbl d0 d1 d2 d3 d4 d5 d6 dg
      obtain ⟨x0, x1, x2, x3, x4, x5, x6⟩ := zbZ H9.out.b1
      obtain ⟨hl1, hl2, hbl⟩ := H9.out.lt
      obtain ⟨dg, d0, d1, d2, d3, d4, d5, d6⟩ := HCX.out w9 H9.out.wr.below
      rw [Nat.zero_mul, Nat.add_zero] at d0 d1 d2 d3 d4 d5 d6
      go_wp2_with (go_at_call 100; refine (H9.out.lput1 [59] ⟨by simp, by simp⟩ hb4).mono ?_; rintro e w10 ⟨rfl, hW10, hk10⟩)
      have H10 := Lib.hid (H9.out.go oSt oSt hW10 hk10)
      clear hW10 hk10
      clear x0 x1 x2 x3 x4 x5 x6 hl1 hl2 hbl d0 d1 d2 d3 d4 d5 d6 dg
      go_roundg (k - (m + 1))
      case measure => have := HI.out; omega
      case rel =>
       refine ⟨m + 1, rfl, by simp, hlt, ?_, HKR.out.trans (by have h := H10.out.kp; first | exact h | (rw [HWO.out] at h; exact h))⟩
       rw [HPT.out]
       simpa [List.append_assoc] using H10.out.wr
    ·skip
     have hltT : 0 < s.t.length := by omega
     obtain ⟨gT, offT, AnT, cnT, AeT, ceT, AqT, cqT, rfl, htyT, hcT⟩ := htt.spot 0 hltT
     have hrT := Sx.right0_head s.t hltT
     rw [htr] at hrT
     have htq := Sx.typL_head hltT
     obtain ⟨tT, hpeT⟩ : ∃ p, s.t[0]'hltT = p := ⟨_, rfl⟩
     have hmemT : tT ∈ s.t := by rw [← hpeT]; exact List.getElem_mem hltT
     rw [hpeT] at hcT htyT hrT htq
     have hzT : Sx.size tT ≤ 1000000 := by have := Sx.size_mem hmemT; have := Sx.sizeS_parts s; omega
     have htyp := (zckZ NM NM.ok W0 b _ tT (Nat.le_refl _)).1 64
     obtain ⟨qt, hqt⟩ : ∃ q, Sx.typ tT = q := ⟨_, rfl⟩
     unfold TypOk at htyp
     rw [hqt] at htq htyp
     have HTYT := Lib.hid htyT
     have HCT := Lib.hid hcT
     have HTP := Lib.hid (fun u l w (hu : IsTy W0 u tT) (hw : Wrote W0 b l.length l w) (hc : l.length + 10 * Sx.size tT ≤ 1000000000) => by
      exact (htyp u l.length l w hrT hu hw hc).mono fun e w' ⟨h1, h2, h3⟩ => (⟨h1, h2.tight, h3⟩ : e = Ending.returned (.tuple #[]) ∧ Wrote W0 b (l ++ qt).length (l ++ qt) w' ∧ KeepW w w'))
     clear htyT hcT htyp hqt hpeT hmemT hrT htt
     subst htg
     have hb0 : bl = 0 := by
      rcases hbg with h | h | h
      ·omega
      ·omega
      ·rw [← HBL.out, h]; rfl
     have he0 : el = 0 := by
      rcases heg with h | h
      ·omega
      ·rw [← hel, h]; rfl
     subst hb0 he0
     obtain ⟨w4, hw4⟩ : ∃ w4, wr.alloc (.cells #[.int .i64 s.pos, .int .i64 1, .string ⟨s.name.toArray⟩, .slice (some ⟨gT, offT, none⟩) 1 ct, .slice (some ⟨gX, offX, none⟩) 1 cx, .slice Ab 0 cb, .slice Ae 0 ce] 69) = w4 := ⟨_, rfl⟩
     have hlv := Live.first HW1.out #[.int .i64 s.pos, .int .i64 1, .string ⟨s.name.toArray⟩, .slice (some ⟨gT, offT, none⟩) 1 ct, .slice (some ⟨gX, offX, none⟩) 1 cx, .slice Ab 0 cb, .slice Ae 0 ce] 69 hw4
     rw [hL] at hlv
     have H4 := Lib.hid hlv
     clear hlv
     have hst : Sx.stmt SY s = [[108, 101, 116], s.name] ++ qt ++ [[61]] ++ qx ++ [[59]] := by
      rw [hstq]
      simp [htq]
     rw [hst] at hpt hle2
     simp only [List.length_append, List.length_cons, List.length_nil] at hle2
     have HPT := Lib.hid hpt
     have hnmo : s.name ≠ [] ∧ s.name.length ≤ 1000000000 := ⟨NM.ok.small _ (hnm (.inl hkd1)), by omega⟩
     have HNMO := Lib.hid hnmo
     have hb1 : (l ++ lm).length + 2 ≤ 1000000000 := by simp; omega
     have hb2 : (l ++ lm ++ [[108, 101, 116], s.name] ++ qt).length + 1 ≤ 1000000000 := by simp; omega
     have hb3 : (l ++ lm ++ [[108, 101, 116], s.name] ++ qt ++ [[61]]).length + qx.length ≤ 900000000 := by simp; omega
     have hb4 : (l ++ lm ++ [[108, 101, 116], s.name] ++ qt ++ [[61]] ++ qx).length + 1 ≤ 1000000000 := by simp; omega
     have HTQ := Lib.hid (show Sx.typL (s.t.take 1) = qt by rw [List.take_of_length_le (by omega)]; exact htq)
     have hbt : (l ++ lm ++ [[108, 101, 116], s.name]).length + 10 * Sx.size tT ≤ 1000000000 := by simp; omega
     clear hnmo hpt hst hstq hnm hbg heg hkd1 hk17 hle2 hnl hsz6 hel htq hzT hltT htr
     obtain ⟨x0, x1, x2, x3, x4, x5, x6⟩ := zbZ H4.out.b1
     obtain ⟨hl1, hl2, hbl⟩ := H4.out.lt
     obtain ⟨dg, d0, d1, d2, d3, d4, d5, d6⟩ := HCX.out w4 H4.out.wr.below
     rw [Nat.zero_mul, Nat.add_zero] at d0 d1 d2 d3 d4 d5 d6
     go_upto_region 5 with fail
     have HD4 := Lib.hid H4.out.drew
     go_region_with (go_at_call 100; refine (HD4.out.lput2 [108, 101, 116] s.name ⟨by simp, by simp⟩ HNMO.out hb1).mono ?_; rintro e w5 ⟨rfl, hW5, hk5⟩)
     have H5 := Lib.hid (HD4.out.go oSt oSt hW5 hk5)
     clear hW5 hk5
     clear x0 x1 x2 x3 x4 x5 x6 hl1 hl2 hbl d0 d1 d2 d3 d4 d5 d6 dg
     obtain ⟨x0, x1, x2, x3, x4, x5, x6⟩ := zbZ H5.out.b1
     obtain ⟨hl1, hl2, hbl⟩ := H5.out.lt
     obtain ⟨dg, d0, d1, d2, d3, d4, d5, d6⟩ := HCX.out w5 H5.out.wr.below
     rw [Nat.zero_mul, Nat.add_zero] at d0 d1 d2 d3 d4 d5 d6
     go_wp2_with fail
     clear x0 x1 x2 x3 x4 x5 x6 hl1 hl2 hbl d0 d1 d2 d3 d4 d5 d6 dg
     have HLS := Lib.hid (show Live W0 b (l ++ lm ++ [[108, 101, 116], s.name] ++ Sx.typL (s.t.take 0)) wr w5 L #[.int .i64 s.pos, .int .i64 1, .string ⟨s.name.toArray⟩, .slice (some ⟨gT, offT, none⟩) 1 ct, .slice (some ⟨gX, offX, none⟩) 1 cx, .slice Ab 0 cb, .slice Ae 0 ce] 69 L #[.int .i64 s.pos, .int .i64 1, .string ⟨s.name.toArray⟩, .slice (some ⟨gT, offT, none⟩) 1 ct, .slice (some ⟨gX, offX, none⟩) 1 cx, .slice Ab 0 cb, .slice Ae 0 ce] 69 by simpa [Sx.typL] using H5.out)
     obtain ⟨wo, hwo⟩ : ∃ wo : World, wo = wr := ⟨_, rfl⟩
     rw [← hwo] at HLS
     have HWO := Lib.hid hwo
     clear hwo
     go_loopg [28] 1 (fun i v wx => ∃ (j : Nat), i = 1 - j ∧ v = .int .i64 (j : Int) ∧ j ≤ 1 ∧ Live W0 b (l ++ lm ++ [[108, 101, 116], s.name] ++ Sx.typL (s.t.take j)) wo wx L #[.int .i64 s.pos, .int .i64 1, .string ⟨s.name.toArray⟩, .slice (some ⟨gT, offT, none⟩) 1 ct, .slice (some ⟨gX, offX, none⟩) 1 cx, .slice Ab 0 cb, .slice Ae 0 ce] 69 L #[.int .i64 s.pos, .int .i64 1, .string ⟨s.name.toArray⟩, .slice (some ⟨gT, offT, none⟩) 1 ct, .slice (some ⟨gX, offX, none⟩) 1 cx, .slice Ab 0 cb, .slice Ae 0 ce] 69)
     case atStart => exact ⟨0, rfl, rfl, Nat.zero_le _, HLS.out⟩
     case round =>
      obtain ⟨j, hij, rfl, hj, hlive⟩ := hrel
      have HIJ := Lib.hid hij
      have HLJ := Lib.hid hlive
      clear hij hlive
      by_cases hj0 : j = 0
      ·subst hj0
       have H7 := Lib.hid (show Live W0 b (l ++ lm ++ [[108, 101, 116], s.name]) wo wr L #[.int .i64 s.pos, .int .i64 1, .string ⟨s.name.toArray⟩, .slice (some ⟨gT, offT, none⟩) 1 ct, .slice (some ⟨gX, offX, none⟩) 1 cx, .slice Ab 0 cb, .slice Ae 0 ce] 69 L #[.int .i64 s.pos, .int .i64 1, .string ⟨s.name.toArray⟩, .slice (some ⟨gT, offT, none⟩) 1 ct, .slice (some ⟨gX, offX, none⟩) 1 cx, .slice Ab 0 cb, .slice Ae 0 ce] 69 by simpa [Sx.typL] using HLJ.out)
       obtain ⟨tg, t0, t1, t2, t3, t4⟩ := HCT.out wr H7.out.wr.below
       rw [Nat.zero_mul, Nat.add_zero] at t0 t1 t2 t3 t4
       have hlr := H7.out.lt
       obtain ⟨w8, hw8⟩ : ∃ w8, wr.alloc (.cells #[.int .i64 tT.kind, .string ⟨tT.name.toArray⟩, .slice AnT tT.names.length cnT, .slice AeT tT.embeds.length ceT, .slice AqT tT.parts.length cqT] 26) = w8 := ⟨_, rfl⟩
       have H8 := Lib.hid (show Live W0 b (l ++ lm ++ [[108, 101, 116], s.name]) wo w8 L #[.int .i64 s.pos, .int .i64 1, .string ⟨s.name.toArray⟩, .slice (some ⟨gT, offT, none⟩) 1 ct, .slice (some ⟨gX, offX, none⟩) 1 cx, .slice Ab 0 cb, .slice Ae 0 ce] 69 L #[.int .i64 s.pos, .int .i64 1, .string ⟨s.name.toArray⟩, .slice (some ⟨gT, offT, none⟩) 1 ct, .slice (some ⟨gX, offX, none⟩) 1 cx, .slice Ab 0 cb, .slice Ae 0 ce] 69 by rw [← hw8]; exact H7.out.grow (World.grownBy_alloc wr _ none))
       have hbox8 : w8.heap[wr.heap.size]? = some (.cells #[.int .i64 tT.kind, .string ⟨tT.name.toArray⟩, .slice AnT tT.names.length cnT, .slice AeT tT.embeds.length ceT, .slice AqT tT.parts.length cqT] 26 (0, 0)) := by rw [← hw8]; exact heap_alloc_new wr _
       obtain ⟨z0, z1, z2, z3, z4⟩ := zcZ hbox8
       have hl8 := H8.out.lt
       have hl9 := zaZ hbox8
       clear hbox8
       go_wp2_with (go_at_call 59; refine (HTP.out _ _ w8 HTYT.out H8.out.wr hbt).mono ?_; rintro e w9 ⟨rfl, hW9, hk9⟩)
       have H9 := Lib.hid (H8.out.go oSt oSt hW9 hk9)
       clear hW9 hk9 t0 t1 t2 t3 t4 tg z0 z1 z2 z3 z4 hl8 hl9 hlr
       go_roundg (1 - 1)
       case measure => have := HIJ.out; omega
       case rel => exact ⟨1, rfl, rfl, Nat.le_refl _, by rw [HTQ.out]; exact H9.out⟩
      ·obtain rfl : j = 1 := by omega
       have H7 := Lib.hid (show Live W0 b (l ++ lm ++ [[108, 101, 116], s.name] ++ qt) wo wr L #[.int .i64 s.pos, .int .i64 1, .string ⟨s.name.toArray⟩, .slice (some ⟨gT, offT, none⟩) 1 ct, .slice (some ⟨gX, offX, none⟩) 1 cx, .slice Ab 0 cb, .slice Ae 0 ce] 69 L #[.int .i64 s.pos, .int .i64 1, .string ⟨s.name.toArray⟩, .slice (some ⟨gT, offT, none⟩) 1 ct, .slice (some ⟨gX, offX, none⟩) 1 cx, .slice Ab 0 cb, .slice Ae 0 ce] 69 by have h := HLJ.out; rwa [HTQ.out] at h)
       clear HLJ
       obtain ⟨w7, hw7⟩ : ∃ w7, wr = w7 := ⟨_, rfl⟩
       rw [hw7] at H7 ⊢
       clear hw7
       obtain ⟨x0, x1, x2, x3, x4, x5, x6⟩ := zbZ H7.out.b1
       obtain ⟨hl1, hl2, hbl⟩ := H7.out.lt
       obtain ⟨dg, d0, d1, d2, d3, d4, d5, d6⟩ := HCX.out w7 H7.out.wr.below
       rw [Nat.zero_mul, Nat.add_zero] at d0 d1 d2 d3 d4 d5 d6
       go_upto_region 22 with (go_at_call 100; refine (H7.out.lput1 [61] ⟨by simp, by simp⟩ hb2).mono ?_; rintro e w8 ⟨rfl, hW8, hk8⟩)
       have H8 := Lib.hid (H7.out.go oSt oSt hW8 hk8)
       clear hW8 hk8
       clear x0 x1 x2 x3 x4 x5 x6 hl1 hl2 hbl d0 d1 d2 d3 d4 d5 d6 dg
       obtain ⟨x0, x1, x2, x3, x4, x5, x6⟩ := zbZ H8.out.b1
       obtain ⟨hl1, hl2, hbl⟩ := H8.out.lt
       obtain ⟨dg, d0, d1, d2, d3, d4, d5, d6⟩ := HCX.out w8 H8.out.wr.below
       rw [Nat.zero_mul, Nat.add_zero] at d0 d1 d2 d3 d4 d5 d6
       go_upto_region 24 with (go_at_call 64; refine (HEX.out _ _ w8 HTYX.out H8.out.wr hb3).mono ?_; rintro e w9 ⟨rfl, hW9, hk9⟩)
       have H9 := Lib.hid (H8.out.go oSt oSt hW9 hk9)
       clear hW9 hk9
       clear x0 x1 x2 x3 x4 x5 x6 hl1 hl2 hbl d0 d1 d2 d3 d4 d5 d6 dg
       obtain ⟨x0, x1, x2, x3, x4, x5, x6⟩ := zbZ H9.out.b1
       obtain ⟨hl1, hl2, hbl⟩ := H9.out.lt
       obtain ⟨dg, d0, d1, d2, d3, d4, d5, d6⟩ := HCX.out w9 H9.out.wr.below
       rw [Nat.zero_mul, Nat.add_zero] at d0 d1 d2 d3 d4 d5 d6
       go_wp2_with (go_at_call 100; refine (H9.out.lput1 [59] ⟨by simp, by simp⟩ hb4).mono ?_; rintro e w10 ⟨rfl, hW10, hk10⟩)
       have H10 := Lib.hid (H9.out.go oSt oSt hW10 hk10)
       clear hW10 hk10
       clear x0 x1 x2 x3 x4 x5 x6 hl1 hl2 hbl d0 d1 d2 d3 d4 d5 d6 dg
       go_roundg (k - (m + 1))
       case measure => have := HI.out; omega
       case rel =>
        refine ⟨m + 1, rfl, by simp, hlt, ?_, HKR.out.trans (by have h := H10.out.kp; first | exact h | (rw [HWO.out] at h; exact h))⟩
        rw [HPT.out]
        simpa [List.append_assoc] using H10.out.wr
   by_cases hkd2 : s.kind = 2
   ·rw [hkd2] at c1 hstq
    have htg : tl = 0 := by
     rcases htg with h | ⟨h, -⟩
     ·exact h
     ·omega
    subst htg
    have hb0 : bl = 0 := by
     rcases hbg with h | h | h
     ·omega
     ·omega
     ·rw [← HBL.out, h]; rfl
    have he0 : el = 0 := by
     rcases heg with h | h
     ·omega
     ·rw [← hel, h]; rfl
    subst hb0 he0
    obtain ⟨w4, hw4⟩ : ∃ w4, wr.alloc (.cells #[.int .i64 s.pos, .int .i64 2, .string ⟨s.name.toArray⟩, .slice At 0 ct, .slice (some ⟨gX, offX, none⟩) 1 cx, .slice Ab 0 cb, .slice Ae 0 ce] 69) = w4 := ⟨_, rfl⟩
    have hlv := Live.first HW1.out #[.int .i64 s.pos, .int .i64 2, .string ⟨s.name.toArray⟩, .slice At 0 ct, .slice (some ⟨gX, offX, none⟩) 1 cx, .slice Ab 0 cb, .slice Ae 0 ce] 69 hw4
    rw [hL] at hlv
    have H4 := Lib.hid hlv
    clear hlv
    have hst : Sx.stmt SY s = [s.name, [61]] ++ qx ++ [[59]] := by
     rw [hstq]
     simp
    rw [hst] at hpt hle2
    simp only [List.length_append, List.length_cons, List.length_nil] at hle2
    have HPT := Lib.hid hpt
    have hnmo : s.name ≠ [] ∧ s.name.length ≤ 1000000000 := ⟨NM.ok.small _ (hnm (.inr hkd2)), by omega⟩
    have HNMO := Lib.hid hnmo
    have hb1 : (l ++ lm).length + 2 ≤ 1000000000 := by simp; omega
    have hb0 : (l ++ lm).length + 1 ≤ 1000000000 := by simp; omega
    have hb3 : (l ++ lm ++ [s.name, [61]]).length + qx.length ≤ 900000000 := by simp; omega
    have hb4 : (l ++ lm ++ [s.name, [61]] ++ qx).length + 1 ≤ 1000000000 := by simp; omega
    clear hpt hst hstq hnm hbg heg hkd2 hk17 hle2 hnl hsz6 hel htt hnmo
    obtain ⟨x0, x1, x2, x3, x4, x5, x6⟩ := zbZ H4.out.b1
    obtain ⟨hl1, hl2, hbl⟩ := H4.out.lt
    obtain ⟨dg, d0, d1, d2, d3, d4, d5, d6⟩ := HCX.out w4 H4.out.wr.below
    rw [Nat.zero_mul, Nat.add_zero] at d0 d1 d2 d3 d4 d5 d6
    go_upto_region 13 with fail
    have HD4 := Lib.hid H4.out.drew
    go_region_with (go_at_call 100; refine (HD4.out.lput2 s.name [61] HNMO.out ⟨by simp, by simp⟩ hb1).mono ?_; rintro e w5 ⟨rfl, hW5, hk5⟩)
    have H5 := Lib.hid (HD4.out.go oSt oSt hW5 hk5)
    clear hW5 hk5
    clear x0 x1 x2 x3 x4 x5 x6 hl1 hl2 hbl d0 d1 d2 d3 d4 d5 d6 dg
    obtain ⟨x0, x1, x2, x3, x4, x5, x6⟩ := zbZ H5.out.b1
    obtain ⟨hl1, hl2, hbl⟩ := H5.out.lt
    obtain ⟨dg, d0, d1, d2, d3, d4, d5, d6⟩ := HCX.out w5 H5.out.wr.below
    rw [Nat.zero_mul, Nat.add_zero] at d0 d1 d2 d3 d4 d5 d6
    go_upto_region 24 with (go_at_call 64; refine (HEX.out _ _ w5 HTYX.out H5.out.wr hb3).mono ?_; rintro e w6 ⟨rfl, hW6, hk6⟩)
    have H6 := Lib.hid (H5.out.go oSt oSt hW6 hk6)
    clear hW6 hk6
    clear x0 x1 x2 x3 x4 x5 x6 hl1 hl2 hbl d0 d1 d2 d3 d4 d5 d6 dg
    obtain ⟨x0, x1, x2, x3, x4, x5, x6⟩ := zbZ H6.out.b1
    obtain ⟨hl1, hl2, hbl⟩ := H6.out.lt
    obtain ⟨dg, d0, d1, d2, d3, d4, d5, d6⟩ := HCX.out w6 H6.out.wr.below
    rw [Nat.zero_mul, Nat.add_zero] at d0 d1 d2 d3 d4 d5 d6
    go_wp2_with (go_at_call 100; refine (H6.out.lput1 [59] ⟨by simp, by simp⟩ hb4).mono ?_; rintro e w7 ⟨rfl, hW7, hk7⟩)
    have H7 := Lib.hid (H6.out.go oSt oSt hW7 hk7)
    clear hW7 hk7
    clear x0 x1 x2 x3 x4 x5 x6 hl1 hl2 hbl d0 d1 d2 d3 d4 d5 d6 dg
    go_roundg (k - (m + 1))
    case measure => have := HI.out; omega
    case rel =>
     refine ⟨m + 1, rfl, by simp, hlt, ?_, HKR.out.trans (by have h := H7.out.kp; first | exact h | (rw [HWO.out] at h; exact h))⟩
     rw [HPT.out]
     simpa [List.append_assoc] using H7.out.wr
   by_cases hkd3 : s.kind = 3
   ·rw [hkd3] at c1 hstq
    have htg : tl = 0 := by
     rcases htg with h | ⟨h, -⟩
     ·exact h
     ·omega
    subst htg
    have hb0 : bl = 0 := by
     rcases hbg with h | h | h
     ·omega
     ·omega
     ·rw [← HBL.out, h]; rfl
    have he0 : el = 0 := by
     rcases heg with h | h
     ·omega
     ·rw [← hel, h]; rfl
    subst hb0 he0
    obtain ⟨w4, hw4⟩ : ∃ w4, wr.alloc (.cells #[.int .i64 s.pos, .int .i64 3, .string ⟨s.name.toArray⟩, .slice At 0 ct, .slice (some ⟨gX, offX, none⟩) 1 cx, .slice Ab 0 cb, .slice Ae 0 ce] 69) = w4 := ⟨_, rfl⟩
    have hlv := Live.first HW1.out #[.int .i64 s.pos, .int .i64 3, .string ⟨s.name.toArray⟩, .slice At 0 ct, .slice (some ⟨gX, offX, none⟩) 1 cx, .slice Ab 0 cb, .slice Ae 0 ce] 69 hw4
    rw [hL] at hlv
    have H4 := Lib.hid hlv
    clear hlv
    have hst : Sx.stmt SY s = [[112, 114, 105, 110, 116]] ++ qx ++ [[59]] := by
     rw [hstq]
     simp
    rw [hst] at hpt hle2
    simp only [List.length_append, List.length_cons, List.length_nil] at hle2
    have HPT := Lib.hid hpt
    have hb1 : (l ++ lm).length + 2 ≤ 1000000000 := by simp; omega
    have hb0 : (l ++ lm).length + 1 ≤ 1000000000 := by simp; omega
    have hb3 : (l ++ lm ++ [[112, 114, 105, 110, 116]]).length + qx.length ≤ 900000000 := by simp; omega
    have hb4 : (l ++ lm ++ [[112, 114, 105, 110, 116]] ++ qx).length + 1 ≤ 1000000000 := by simp; omega
    clear hpt hst hstq hnm hbg heg hkd3 hk17 hle2 hnl hsz6 hel htt
    obtain ⟨x0, x1, x2, x3, x4, x5, x6⟩ := zbZ H4.out.b1
    obtain ⟨hl1, hl2, hbl⟩ := H4.out.lt
    obtain ⟨dg, d0, d1, d2, d3, d4, d5, d6⟩ := HCX.out w4 H4.out.wr.below
    rw [Nat.zero_mul, Nat.add_zero] at d0 d1 d2 d3 d4 d5 d6
    go_upto_region 22 with (go_at_call 100; refine (H4.out.lput1 [112, 114, 105, 110, 116] ⟨by simp, by simp⟩ hb0).mono ?_; rintro e w5 ⟨rfl, hW5, hk5⟩)
    have H5 := Lib.hid (H4.out.go oSt oSt hW5 hk5)
    clear hW5 hk5
    clear x0 x1 x2 x3 x4 x5 x6 hl1 hl2 hbl d0 d1 d2 d3 d4 d5 d6 dg
    obtain ⟨x0, x1, x2, x3, x4, x5, x6⟩ := zbZ H5.out.b1
    obtain ⟨hl1, hl2, hbl⟩ := H5.out.lt
    obtain ⟨dg, d0, d1, d2, d3, d4, d5, d6⟩ := HCX.out w5 H5.out.wr.below
    rw [Nat.zero_mul, Nat.add_zero] at d0 d1 d2 d3 d4 d5 d6
    go_upto_region 24 with (go_at_call 64; refine (HEX.out _ _ w5 HTYX.out H5.out.wr hb3).mono ?_; rintro e w6 ⟨rfl, hW6, hk6⟩)
    have H6 := Lib.hid (H5.out.go oSt oSt hW6 hk6)
    clear hW6 hk6
    clear x0 x1 x2 x3 x4 x5 x6 hl1 hl2 hbl d0 d1 d2 d3 d4 d5 d6 dg
    obtain ⟨x0, x1, x2, x3, x4, x5, x6⟩ := zbZ H6.out.b1
    obtain ⟨hl1, hl2, hbl⟩ := H6.out.lt
    obtain ⟨dg, d0, d1, d2, d3, d4, d5, d6⟩ := HCX.out w6 H6.out.wr.below
    rw [Nat.zero_mul, Nat.add_zero] at d0 d1 d2 d3 d4 d5 d6
    go_wp2_with (go_at_call 100; refine (H6.out.lput1 [59] ⟨by simp, by simp⟩ hb4).mono ?_; rintro e w7 ⟨rfl, hW7, hk7⟩)
    have H7 := Lib.hid (H6.out.go oSt oSt hW7 hk7)
    clear hW7 hk7
    clear x0 x1 x2 x3 x4 x5 x6 hl1 hl2 hbl d0 d1 d2 d3 d4 d5 d6 dg
    go_roundg (k - (m + 1))
    case measure => have := HI.out; omega
    case rel =>
     refine ⟨m + 1, rfl, by simp, hlt, ?_, HKR.out.trans (by have h := H7.out.kp; first | exact h | (rw [HWO.out] at h; exact h))⟩
     rw [HPT.out]
     simpa [List.append_assoc] using H7.out.wr
   by_cases hkd4 : s.kind = 4
   ·rw [hkd4] at c1 hstq
    have htg : tl = 0 := by
     rcases htg with h | ⟨h, -⟩
     ·exact h
     ·omega
    subst htg
    obtain ⟨w4, hw4⟩ : ∃ w4, wr.alloc (.cells #[.int .i64 s.pos, .int .i64 4, .string ⟨s.name.toArray⟩, .slice At 0 ct, .slice (some ⟨gX, offX, none⟩) 1 cx, .slice Ab bl cb, .slice Ae el ce] 69) = w4 := ⟨_, rfl⟩
    have hlv := Live.first HW1.out #[.int .i64 s.pos, .int .i64 4, .string ⟨s.name.toArray⟩, .slice At 0 ct, .slice (some ⟨gX, offX, none⟩) 1 cx, .slice Ab bl cb, .slice Ae el ce] 69 hw4
    rw [hL] at hlv
    have H4 := Lib.hid hlv
    clear hlv
    rcases Nat.eq_zero_or_pos el with hze | hze
    ·skip
     have heE : s.els.isEmpty = true := by rw [List.isEmpty_iff]; exact List.length_eq_zero_iff.1 (hel.trans hze)
     subst hze
     have hst : Sx.stmt SY s = [[105, 102]] ++ qx ++ qb := by
      rw [hstq]
      simp [heE]
     rw [hst] at hpt hle2
     simp only [List.length_append, List.length_cons, List.length_nil] at hle2
     have HPT := Lib.hid hpt
     have hb0 : (l ++ lm).length + 1 ≤ 1000000000 := by simp; omega
     have hb3 : (l ++ lm ++ [[105, 102]]).length + qx.length ≤ 900000000 := by simp; omega
     have hb4 : (l ++ lm ++ [[105, 102]] ++ qx).length + qb.length ≤ 900000000 := by simp; omega
     clear hpt hst hstq hnm hbg heg hkd4 hk17 hle2 hnl hsz6 hel htt heE
     obtain ⟨x0, x1, x2, x3, x4, x5, x6⟩ := zbZ H4.out.b1
     obtain ⟨hl1, hl2, hbl⟩ := H4.out.lt
     obtain ⟨dg, d0, d1, d2, d3, d4, d5, d6⟩ := HCX.out w4 H4.out.wr.below
     rw [Nat.zero_mul, Nat.add_zero] at d0 d1 d2 d3 d4 d5 d6
     go_upto_region 22 with (go_at_call 100; refine (H4.out.lput1 [105, 102] ⟨by simp, by simp⟩ hb0).mono ?_; rintro e w5 ⟨rfl, hW5, hk5⟩)
     have H5 := Lib.hid (H4.out.go oSt oSt hW5 hk5)
     clear hW5 hk5
     clear x0 x1 x2 x3 x4 x5 x6 hl1 hl2 hbl d0 d1 d2 d3 d4 d5 d6 dg
     obtain ⟨x0, x1, x2, x3, x4, x5, x6⟩ := zbZ H5.out.b1
     obtain ⟨hl1, hl2, hbl⟩ := H5.out.lt
     obtain ⟨dg, d0, d1, d2, d3, d4, d5, d6⟩ := HCX.out w5 H5.out.wr.below
     rw [Nat.zero_mul, Nat.add_zero] at d0 d1 d2 d3 d4 d5 d6
     go_upto_region 24 with (go_at_call 64; refine (HEX.out _ _ w5 HTYX.out H5.out.wr hb3).mono ?_; rintro e w6 ⟨rfl, hW6, hk6⟩)
     have H6 := Lib.hid (H5.out.go oSt oSt hW6 hk6)
     clear hW6 hk6
     clear x0 x1 x2 x3 x4 x5 x6 hl1 hl2 hbl d0 d1 d2 d3 d4 d5 d6 dg
     obtain ⟨x0, x1, x2, x3, x4, x5, x6⟩ := zbZ H6.out.b1
     obtain ⟨hl1, hl2, hbl⟩ := H6.out.lt
     obtain ⟨dg, d0, d1, d2, d3, d4, d5, d6⟩ := HCX.out w6 H6.out.wr.below
     rw [Nat.zero_mul, Nat.add_zero] at d0 d1 d2 d3 d4 d5 d6
     go_wp2_with (go_at_call 121; refine (HBS.out _ w6 H6.out.wr hb4).mono ?_; rintro e w7 ⟨rfl, hW7, hk7⟩)
     have H7 := Lib.hid (H6.out.go oSt oSt hW7 hk7)
     clear hW7 hk7
     clear x0 x1 x2 x3 x4 x5 x6 hl1 hl2 hbl d0 d1 d2 d3 d4 d5 d6 dg
     go_roundg (k - (m + 1))
     case measure => have := HI.out; omega
     case rel =>
      refine ⟨m + 1, rfl, by simp, hlt, ?_, HKR.out.trans (by have h := H7.out.kp; first | exact h | (rw [HWO.out] at h; exact h))⟩
      rw [HPT.out]
      simpa [List.append_assoc] using H7.out.wr
    ·skip
     have hye : (0 : Int) < (el : Int) := by omega
     have heE : s.els.isEmpty = false := by cases hx : s.els with
      | nil => rw [hx] at hel; simp at hel; omega
      | cons a l => rfl
     have hst : Sx.stmt SY s = [[105, 102]] ++ qx ++ qb ++ [[101, 108, 115, 101]] ++ qe := by
      rw [hstq]
      simp [heE]
     rw [hst] at hpt hle2
     simp only [List.length_append, List.length_cons, List.length_nil] at hle2
     have HPT := Lib.hid hpt
     have hb0 : (l ++ lm).length + 1 ≤ 1000000000 := by simp; omega
     have hb3 : (l ++ lm ++ [[105, 102]]).length + qx.length ≤ 900000000 := by simp; omega
     have hb4 : (l ++ lm ++ [[105, 102]] ++ qx).length + qb.length ≤ 900000000 := by simp; omega
     have hb5 : (l ++ lm ++ [[105, 102]] ++ qx ++ qb).length + 1 ≤ 1000000000 := by simp; omega
     have hb6 : (l ++ lm ++ [[105, 102]] ++ qx ++ qb ++ [[101, 108, 115, 101]]).length + qe.length ≤ 900000000 := by simp; omega
     clear hpt hst hstq hnm hbg heg hkd4 hk17 hle2 hnl hsz6 hel htt heE
     obtain ⟨x0, x1, x2, x3, x4, x5, x6⟩ := zbZ H4.out.b1
     obtain ⟨hl1, hl2, hbl⟩ := H4.out.lt
     obtain ⟨dg, d0, d1, d2, d3, d4, d5, d6⟩ := HCX.out w4 H4.out.wr.below
     rw [Nat.zero_mul, Nat.add_zero] at d0 d1 d2 d3 d4 d5 d6
     go_upto_region 22 with (go_at_call 100; refine (H4.out.lput1 [105, 102] ⟨by simp, by simp⟩ hb0).mono ?_; rintro e w5 ⟨rfl, hW5, hk5⟩)
     have H5 := Lib.hid (H4.out.go oSt oSt hW5 hk5)
     clear hW5 hk5
     clear x0 x1 x2 x3 x4 x5 x6 hl1 hl2 hbl d0 d1 d2 d3 d4 d5 d6 dg
     obtain ⟨x0, x1, x2, x3, x4, x5, x6⟩ := zbZ H5.out.b1
     obtain ⟨hl1, hl2, hbl⟩ := H5.out.lt
     obtain ⟨dg, d0, d1, d2, d3, d4, d5, d6⟩ := HCX.out w5 H5.out.wr.below
     rw [Nat.zero_mul, Nat.add_zero] at d0 d1 d2 d3 d4 d5 d6
     go_upto_region 24 with (go_at_call 64; refine (HEX.out _ _ w5 HTYX.out H5.out.wr hb3).mono ?_; rintro e w6 ⟨rfl, hW6, hk6⟩)
     have H6 := Lib.hid (H5.out.go oSt oSt hW6 hk6)
     clear hW6 hk6
     clear x0 x1 x2 x3 x4 x5 x6 hl1 hl2 hbl d0 d1 d2 d3 d4 d5 d6 dg
     obtain ⟨x0, x1, x2, x3, x4, x5, x6⟩ := zbZ H6.out.b1
     obtain ⟨hl1, hl2, hbl⟩ := H6.out.lt
     obtain ⟨dg, d0, d1, d2, d3, d4, d5, d6⟩ := HCX.out w6 H6.out.wr.below
     rw [Nat.zero_mul, Nat.add_zero] at d0 d1 d2 d3 d4 d5 d6
     go_upto_region 28 with (go_at_call 121; refine (HBS.out _ w6 H6.out.wr hb4).mono ?_; rintro e w7 ⟨rfl, hW7, hk7⟩)
     have H7 := Lib.hid (H6.out.go oSt oSt hW7 hk7)
     clear hW7 hk7
     clear x0 x1 x2 x3 x4 x5 x6 hl1 hl2 hbl d0 d1 d2 d3 d4 d5 d6 dg
     obtain ⟨x0, x1, x2, x3, x4, x5, x6⟩ := zbZ H7.out.b1
     obtain ⟨hl1, hl2, hbl⟩ := H7.out.lt
     obtain ⟨dg, d0, d1, d2, d3, d4, d5, d6⟩ := HCX.out w7 H7.out.wr.below
     rw [Nat.zero_mul, Nat.add_zero] at d0 d1 d2 d3 d4 d5 d6
     go_upto_region 29 with (go_at_call 100; refine (H7.out.lput1 [101, 108, 115, 101] ⟨by simp, by simp⟩ hb5).mono ?_; rintro e w8 ⟨rfl, hW8, hk8⟩)
     have H8 := Lib.hid (H7.out.go oSt oSt hW8 hk8)
     clear hW8 hk8
     clear x0 x1 x2 x3 x4 x5 x6 hl1 hl2 hbl d0 d1 d2 d3 d4 d5 d6 dg
     obtain ⟨x0, x1, x2, x3, x4, x5, x6⟩ := zbZ H8.out.b1
     obtain ⟨hl1, hl2, hbl⟩ := H8.out.lt
     obtain ⟨dg, d0, d1, d2, d3, d4, d5, d6⟩ := HCX.out w8 H8.out.wr.below
     rw [Nat.zero_mul, Nat.add_zero] at d0 d1 d2 d3 d4 d5 d6
     go_wp2_with (go_at_call 121; refine (HES.out _ w8 H8.out.wr hb6).mono ?_; rintro e w9 ⟨rfl, hW9, hk9⟩)
     have H9 := Lib.hid (H8.out.go oSt oSt hW9 hk9)
     clear hW9 hk9
     clear x0 x1 x2 x3 x4 x5 x6 hl1 hl2 hbl d0 d1 d2 d3 d4 d5 d6 dg
     go_roundg (k - (m + 1))
     case measure => have := HI.out; omega
     case rel =>
      refine ⟨m + 1, rfl, by simp, hlt, ?_, HKR.out.trans (by have h := H9.out.kp; first | exact h | (rw [HWO.out] at h; exact h))⟩
      rw [HPT.out]
      simpa [List.append_assoc] using H9.out.wr
   by_cases hkd5 : s.kind = 5
   ·rw [hkd5] at c1 hstq
    have htg : tl = 0 := by
     rcases htg with h | ⟨h, -⟩
     ·exact h
     ·omega
    subst htg
    have he0 : el = 0 := by
     rcases heg with h | h
     ·omega
     ·rw [← hel, h]; rfl
    have heE : s.els.isEmpty = true := by rw [List.isEmpty_iff]; exact List.length_eq_zero_iff.1 (hel.trans he0)
    subst he0
    obtain ⟨w4, hw4⟩ : ∃ w4, wr.alloc (.cells #[.int .i64 s.pos, .int .i64 5, .string ⟨s.name.toArray⟩, .slice At 0 ct, .slice (some ⟨gX, offX, none⟩) 1 cx, .slice Ab bl cb, .slice Ae 0 ce] 69) = w4 := ⟨_, rfl⟩
    have hlv := Live.first HW1.out #[.int .i64 s.pos, .int .i64 5, .string ⟨s.name.toArray⟩, .slice At 0 ct, .slice (some ⟨gX, offX, none⟩) 1 cx, .slice Ab bl cb, .slice Ae 0 ce] 69 hw4
    rw [hL] at hlv
    have H4 := Lib.hid hlv
    clear hlv
    have hst : Sx.stmt SY s = [[119, 104, 105, 108, 101]] ++ qx ++ qb := by
     rw [hstq]
     simp [heE]
    rw [hst] at hpt hle2
    simp only [List.length_append, List.length_cons, List.length_nil] at hle2
    have HPT := Lib.hid hpt
    have hb0 : (l ++ lm).length + 1 ≤ 1000000000 := by simp; omega
    have hb3 : (l ++ lm ++ [[119, 104, 105, 108, 101]]).length + qx.length ≤ 900000000 := by simp; omega
    have hb4 : (l ++ lm ++ [[119, 104, 105, 108, 101]] ++ qx).length + qb.length ≤ 900000000 := by simp; omega
    clear hpt hst hstq hnm hbg heg hkd5 hk17 hle2 hnl hsz6 hel htt heE
    obtain ⟨x0, x1, x2, x3, x4, x5, x6⟩ := zbZ H4.out.b1
    obtain ⟨hl1, hl2, hbl⟩ := H4.out.lt
    obtain ⟨dg, d0, d1, d2, d3, d4, d5, d6⟩ := HCX.out w4 H4.out.wr.below
    rw [Nat.zero_mul, Nat.add_zero] at d0 d1 d2 d3 d4 d5 d6
    go_upto_region 22 with (go_at_call 100; refine (H4.out.lput1 [119, 104, 105, 108, 101] ⟨by simp, by simp⟩ hb0).mono ?_; rintro e w5 ⟨rfl, hW5, hk5⟩)
    have H5 := Lib.hid (H4.out.go oSt oSt hW5 hk5)
    clear hW5 hk5
    clear x0 x1 x2 x3 x4 x5 x6 hl1 hl2 hbl d0 d1 d2 d3 d4 d5 d6 dg
    obtain ⟨x0, x1, x2, x3, x4, x5, x6⟩ := zbZ H5.out.b1
    obtain ⟨hl1, hl2, hbl⟩ := H5.out.lt
    obtain ⟨dg, d0, d1, d2, d3, d4, d5, d6⟩ := HCX.out w5 H5.out.wr.below
    rw [Nat.zero_mul, Nat.add_zero] at d0 d1 d2 d3 d4 d5 d6
    go_upto_region 24 with (go_at_call 64; refine (HEX.out _ _ w5 HTYX.out H5.out.wr hb3).mono ?_; rintro e w6 ⟨rfl, hW6, hk6⟩)
    have H6 := Lib.hid (H5.out.go oSt oSt hW6 hk6)
    clear hW6 hk6
    clear x0 x1 x2 x3 x4 x5 x6 hl1 hl2 hbl d0 d1 d2 d3 d4 d5 d6 dg
    obtain ⟨x0, x1, x2, x3, x4, x5, x6⟩ := zbZ H6.out.b1
    obtain ⟨hl1, hl2, hbl⟩ := H6.out.lt
    obtain ⟨dg, d0, d1, d2, d3, d4, d5, d6⟩ := HCX.out w6 H6.out.wr.below
    rw [Nat.zero_mul, Nat.add_zero] at d0 d1 d2 d3 d4 d5 d6
    go_wp2_with (go_at_call 121; refine (HBS.out _ w6 H6.out.wr hb4).mono ?_; rintro e w7 ⟨rfl, hW7, hk7⟩)
    have H7 := Lib.hid (H6.out.go oSt oSt hW7 hk7)
    clear hW7 hk7
    clear x0 x1 x2 x3 x4 x5 x6 hl1 hl2 hbl d0 d1 d2 d3 d4 d5 d6 dg
    go_roundg (k - (m + 1))
    case measure => have := HI.out; omega
    case rel =>
     refine ⟨m + 1, rfl, by simp, hlt, ?_, HKR.out.trans (by have h := H7.out.kp; first | exact h | (rw [HWO.out] at h; exact h))⟩
     rw [HPT.out]
     simpa [List.append_assoc] using H7.out.wr
   by_cases hkd6 : s.kind = 6
   ·rw [hkd6] at c1 hstq
    have htg : tl = 0 := by
     rcases htg with h | ⟨h, -⟩
     ·exact h
     ·omega
    subst htg
    have hb0 : bl = 0 := by
     rcases hbg with h | h | h
     ·omega
     ·omega
     ·rw [← HBL.out, h]; rfl
    have he0 : el = 0 := by
     rcases heg with h | h
     ·omega
     ·rw [← hel, h]; rfl
    subst hb0 he0
    obtain ⟨w4, hw4⟩ : ∃ w4, wr.alloc (.cells #[.int .i64 s.pos, .int .i64 6, .string ⟨s.name.toArray⟩, .slice At 0 ct, .slice (some ⟨gX, offX, none⟩) 1 cx, .slice Ab 0 cb, .slice Ae 0 ce] 69) = w4 := ⟨_, rfl⟩
    have hlv := Live.first HW1.out #[.int .i64 s.pos, .int .i64 6, .string ⟨s.name.toArray⟩, .slice At 0 ct, .slice (some ⟨gX, offX, none⟩) 1 cx, .slice Ab 0 cb, .slice Ae 0 ce] 69 hw4
    rw [hL] at hlv
    have H4 := Lib.hid hlv
    clear hlv
    have hst : Sx.stmt SY s = [[114, 101, 116, 117, 114, 110]] ++ qx ++ [[59]] := by
     rw [hstq]
     simp
    rw [hst] at hpt hle2
    simp only [List.length_append, List.length_cons, List.length_nil] at hle2
    have HPT := Lib.hid hpt
    have hb1 : (l ++ lm).length + 2 ≤ 1000000000 := by simp; omega
    have hb0 : (l ++ lm).length + 1 ≤ 1000000000 := by simp; omega
    have hb3 : (l ++ lm ++ [[114, 101, 116, 117, 114, 110]]).length + qx.length ≤ 900000000 := by simp; omega
    have hb4 : (l ++ lm ++ [[114, 101, 116, 117, 114, 110]] ++ qx).length + 1 ≤ 1000000000 := by simp; omega
    clear hpt hst hstq hnm hbg heg hkd6 hk17 hle2 hnl hsz6 hel htt
    obtain ⟨x0, x1, x2, x3, x4, x5, x6⟩ := zbZ H4.out.b1
    obtain ⟨hl1, hl2, hbl⟩ := H4.out.lt
    obtain ⟨dg, d0, d1, d2, d3, d4, d5, d6⟩ := HCX.out w4 H4.out.wr.below
    rw [Nat.zero_mul, Nat.add_zero] at d0 d1 d2 d3 d4 d5 d6
    go_upto_region 22 with (go_at_call 100; refine (H4.out.lput1 [114, 101, 116, 117, 114, 110] ⟨by simp, by simp⟩ hb0).mono ?_; rintro e w5 ⟨rfl, hW5, hk5⟩)
    have H5 := Lib.hid (H4.out.go oSt oSt hW5 hk5)
    clear hW5 hk5
    clear x0 x1 x2 x3 x4 x5 x6 hl1 hl2 hbl d0 d1 d2 d3 d4 d5 d6 dg
    obtain ⟨x0, x1, x2, x3, x4, x5, x6⟩ := zbZ H5.out.b1
    obtain ⟨hl1, hl2, hbl⟩ := H5.out.lt
    obtain ⟨dg, d0, d1, d2, d3, d4, d5, d6⟩ := HCX.out w5 H5.out.wr.below
    rw [Nat.zero_mul, Nat.add_zero] at d0 d1 d2 d3 d4 d5 d6
    go_upto_region 24 with (go_at_call 64; refine (HEX.out _ _ w5 HTYX.out H5.out.wr hb3).mono ?_; rintro e w6 ⟨rfl, hW6, hk6⟩)
    have H6 := Lib.hid (H5.out.go oSt oSt hW6 hk6)
    clear hW6 hk6
    clear x0 x1 x2 x3 x4 x5 x6 hl1 hl2 hbl d0 d1 d2 d3 d4 d5 d6 dg
    obtain ⟨x0, x1, x2, x3, x4, x5, x6⟩ := zbZ H6.out.b1
    obtain ⟨hl1, hl2, hbl⟩ := H6.out.lt
    obtain ⟨dg, d0, d1, d2, d3, d4, d5, d6⟩ := HCX.out w6 H6.out.wr.below
    rw [Nat.zero_mul, Nat.add_zero] at d0 d1 d2 d3 d4 d5 d6
    go_wp2_with (go_at_call 100; refine (H6.out.lput1 [59] ⟨by simp, by simp⟩ hb4).mono ?_; rintro e w7 ⟨rfl, hW7, hk7⟩)
    have H7 := Lib.hid (H6.out.go oSt oSt hW7 hk7)
    clear hW7 hk7
    clear x0 x1 x2 x3 x4 x5 x6 hl1 hl2 hbl d0 d1 d2 d3 d4 d5 d6 dg
    go_roundg (k - (m + 1))
    case measure => have := HI.out; omega
    case rel =>
     refine ⟨m + 1, rfl, by simp, hlt, ?_, HKR.out.trans (by have h := H7.out.kp; first | exact h | (rw [HWO.out] at h; exact h))⟩
     rw [HPT.out]
     simpa [List.append_assoc] using H7.out.wr
   by_cases hkd7 : s.kind = 7
   ·rw [hkd7] at c1 hstq
    have htg : tl = 0 := by
     rcases htg with h | ⟨h, -⟩
     ·exact h
     ·omega
    subst htg
    have hb0 : bl = 0 := by
     rcases hbg with h | h | h
     ·omega
     ·omega
     ·rw [← HBL.out, h]; rfl
    have he0 : el = 0 := by
     rcases heg with h | h
     ·omega
     ·rw [← hel, h]; rfl
    subst hb0 he0
    obtain ⟨w4, hw4⟩ : ∃ w4, wr.alloc (.cells #[.int .i64 s.pos, .int .i64 7, .string ⟨s.name.toArray⟩, .slice At 0 ct, .slice (some ⟨gX, offX, none⟩) 1 cx, .slice Ab 0 cb, .slice Ae 0 ce] 69) = w4 := ⟨_, rfl⟩
    have hlv := Live.first HW1.out #[.int .i64 s.pos, .int .i64 7, .string ⟨s.name.toArray⟩, .slice At 0 ct, .slice (some ⟨gX, offX, none⟩) 1 cx, .slice Ab 0 cb, .slice Ae 0 ce] 69 hw4
    rw [hL] at hlv
    have H4 := Lib.hid hlv
    clear hlv
    have hst : Sx.stmt SY s = [] ++ qx ++ [[59]] := by
     rw [hstq]
     simp
    rw [hst] at hpt hle2
    simp only [List.length_append, List.length_cons, List.length_nil] at hle2
    have HPT := Lib.hid hpt
    have hb0 : (l ++ lm).length + 1 ≤ 1000000000 := by simp; omega
    have hb3 : (l ++ lm).length + qx.length ≤ 900000000 := by simp; omega
    have hb4 : (l ++ lm ++ qx).length + 1 ≤ 1000000000 := by simp; omega
    clear hpt hst hstq hnm hbg heg hkd7 hk17 hle2 hnl hsz6 hel htt
    obtain ⟨x0, x1, x2, x3, x4, x5, x6⟩ := zbZ H4.out.b1
    obtain ⟨hl1, hl2, hbl⟩ := H4.out.lt
    obtain ⟨dg, d0, d1, d2, d3, d4, d5, d6⟩ := HCX.out w4 H4.out.wr.below
    rw [Nat.zero_mul, Nat.add_zero] at d0 d1 d2 d3 d4 d5 d6
    go_upto_region 24 with (go_at_call 64; refine (HEX.out _ _ w4 HTYX.out H4.out.wr hb3).mono ?_; rintro e w5 ⟨rfl, hW5, hk5⟩)
    have H5 := Lib.hid (H4.out.go oSt oSt hW5 hk5)
    clear hW5 hk5
    clear x0 x1 x2 x3 x4 x5 x6 hl1 hl2 hbl d0 d1 d2 d3 d4 d5 d6 dg
    obtain ⟨x0, x1, x2, x3, x4, x5, x6⟩ := zbZ H5.out.b1
    obtain ⟨hl1, hl2, hbl⟩ := H5.out.lt
    obtain ⟨dg, d0, d1, d2, d3, d4, d5, d6⟩ := HCX.out w5 H5.out.wr.below
    rw [Nat.zero_mul, Nat.add_zero] at d0 d1 d2 d3 d4 d5 d6
    go_wp2_with (go_at_call 100; refine (H5.out.lput1 [59] ⟨by simp, by simp⟩ hb4).mono ?_; rintro e w6 ⟨rfl, hW6, hk6⟩)
    have H6 := Lib.hid (H5.out.go oSt oSt hW6 hk6)
    clear hW6 hk6
    clear x0 x1 x2 x3 x4 x5 x6 hl1 hl2 hbl d0 d1 d2 d3 d4 d5 d6 dg
    go_roundg (k - (m + 1))
    case measure => have := HI.out; omega
    case rel =>
     refine ⟨m + 1, rfl, by simp, hlt, ?_, HKR.out.trans (by have h := H6.out.kp; first | exact h | (rw [HWO.out] at h; exact h))⟩
     rw [HPT.out]
     simpa [List.append_assoc] using H6.out.wr
   exact absurd hk17 (by omega)
  ·have hmi : ¬ (m : Int) < (k : Int) := by omega
   have HTK := Lib.hid (List.take_of_length_le (show xs.length ≤ m by have := HK.out; omega))
   go_wp2_with fail
   go_end0
   refine ⟨rfl, ?_, HKR.out⟩
   have h8 := HWR.out
   rw [HTK.out] at h8
   simpa using h8
theorem zigZ {W0 : World} {b : Nat} (hG : GS W0) (hN : NG ≤ W0.heap.size) : ∀ (n : Nat) (xs : List Sx.St), Sx.sizeSs xs ≤ n → StmtsOk W0 b xs := by
 intro n
 induction n with
 | zero =>
  intro xs h
  refine zhtZ hG hN (fun s hs => ?_) (fun s hs => ?_)
  ·have := Sx.sizeS_mem hs; have := Sx.sizeS_pos s; omega
  ·have := Sx.sizeS_mem hs; have := Sx.sizeS_pos s; omega
 | succ n ih =>
  intro xs h
  refine zhtZ hG hN (fun s hs => zhsZ (ih _ ?_)) (fun s hs => zhsZ (ih _ ?_))
  ·have := Sx.sizeS_mem hs; have := Sx.sizeS_parts s; omega
  ·have := Sx.sizeS_mem hs; have := Sx.sizeS_parts s; omega
end Go.Proofs.YtdncljdfmdgdaaaGreatDoor
