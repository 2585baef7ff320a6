/-
  The walk of typ at records and interfaces.
-/
/-
 The walk of typ at records and interfaces.
 The walk of coilkeep.SizeType.
 What an argument of chapter 2 is, out of the row's condition: types.
 The walks of coilref2.Nodes, Depth.
 The walk of syntax.Names.
-/
import Derived.Test.YtdncljdfmdgdaaaGreatDoorM12
import Derived.Test.YtdncljdfmdgdaaaGreatDoorM10
import Derived.Test.YtdncljdfmdgdaaaGreatDoorM11
namespace Go.Proofs.YtdncljdfmdgdaaaGreatDoor
open Go.RowKit Go.Shelf Go.WideMaps
set_option linter.unusedSimpArgs false
set_option linter.unusedVariables false
theorem StrRow.spot {W0 : World} {A : Option Addr} {k c : Nat} {l : List Lx.Bytes} (h : StrRow W0 (.slice A k c) l) (m : Nat) (hm : m < l.length) :
  ∃ g off, A = some ⟨g, off, none⟩ ∧ ∀ W, Below W0.heap.size W0 W → g < W.heap.size ∧ W.cell? ⟨g, off + m, none⟩ = some (.string ⟨(l[m]'hm).toArray⟩) := by
 obtain ⟨A', c', hv, hl⟩ := h
 injection hv with h1 _ _
 subst h1
 obtain ⟨g, off, rfl, hc⟩ := hl m hm
 have hg := World.block_lt_of_cell? W0 ⟨g, _, none⟩ hc
 exact ⟨g, off, rfl, fun W hb => ⟨Nat.lt_of_lt_of_le hg hb.size, (World.cell?_of_block (hb.block g hg)).trans hc⟩⟩
theorem BoolRow.spot {W0 : World} {A : Option Addr} {k c : Nat} {l : List Bool} (h : BoolRow W0 (.slice A k c) l) (m : Nat) (hm : m < l.length) :
  ∃ g off, A = some ⟨g, off, none⟩ ∧ ∀ W, Below W0.heap.size W0 W → g < W.heap.size ∧ W.cell? ⟨g, off + m, none⟩ = some (.bool (l[m]'hm)) := by
 obtain ⟨A', c', hv, hl⟩ := h
 injection hv with h1 _ _
 subst h1
 obtain ⟨g, off, rfl, hc⟩ := hl m hm
 have hg := World.block_lt_of_cell? W0 ⟨g, _, none⟩ hc
 exact ⟨g, off, rfl, fun W hb => ⟨Nat.lt_of_lt_of_le hg hb.size, (World.cell?_of_block (hb.block g hg)).trans hc⟩⟩
theorem Sx.fields_append : ∀ (ns : List Lx.Bytes) (es : List Bool) (ps : List Sx.Ty) (n : Lx.Bytes) (e : Bool) (p : Sx.Ty), ns.length = ps.length → es.length = ps.length →
  Sx.fields (ns ++ [n]) (es ++ [e]) (ps ++ [p]) = Sx.fields ns es ps ++ ((if e then [[101, 109, 98, 101, 100]] else []) ++ ([n] ++ Sx.typ p ++ [[59]]))
 | [], [], [], n, e, p, _, _ => by simp [Sx.fields]
 | a :: ns, b :: es, t :: ps, n, e, p, h1, h2 => by
  rw [List.cons_append, List.cons_append, List.cons_append, Sx.fields, Sx.fields, Sx.fields_append ns es ps n e p (by simpa using h1) (by simpa using h2)]
  simp [List.append_assoc]
 | [], _, _ :: _, _, _, _, h1, _ => by simp at h1
 | _ :: _, _, [], _, _, _, h1, _ => by simp at h1
 | _, [], _ :: _, _, _, _, _, h2 => by simp at h2
 | _, _ :: _, [], _, _, _, _, h2 => by simp at h2
theorem Sx.fields_take {ns : List Lx.Bytes} {es : List Bool} {ps : List Sx.Ty} {m : Nat} (h1 : ns.length = ps.length) (h2 : es.length = ps.length) (hm : m < ps.length) :
  Sx.fields (ns.take (m + 1)) (es.take (m + 1)) (ps.take (m + 1)) = Sx.fields (ns.take m) (es.take m) (ps.take m) ++ ((if es[m]'(by omega) then [[101, 109, 98, 101, 100]] else []) ++ ([ns[m]'(by omega)] ++ Sx.typ ps[m] ++ [[59]])) := by
 rw [List.take_succ_eq_append_getElem hm, List.take_succ_eq_append_getElem (show m < ns.length by omega), List.take_succ_eq_append_getElem (show m < es.length by omega)]
 exact Sx.fields_append _ _ _ _ _ _ (by simp; omega) (by simp; omega)
theorem Sx.methods_append : ∀ (ns : List Lx.Bytes) (ps : List Sx.Ty) (n : Lx.Bytes) (p : Sx.Ty), ns.length = ps.length →
  Sx.methods (ns ++ [n]) (ps ++ [p]) = Sx.methods ns ps ++ ([n] ++ Sx.signature p ++ [[59]])
 | [], [], n, p, _ => by simp [Sx.methods]
 | a :: ns, t :: ps, n, p, h1 => by
  rw [List.cons_append, List.cons_append, Sx.methods, Sx.methods, Sx.methods_append ns ps n p (by simpa using h1)]
  simp [List.append_assoc]
 | [], _ :: _, _, _, h1 => by simp at h1
 | _ :: _, [], _, _, h1 => by simp at h1
theorem Sx.methods_take {ns : List Lx.Bytes} {ps : List Sx.Ty} {m : Nat} (h1 : ns.length = ps.length) (hm : m < ps.length) :
  Sx.methods (ns.take (m + 1)) (ps.take (m + 1)) = Sx.methods (ns.take m) (ps.take m) ++ ([ns[m]'(by omega)] ++ Sx.signature ps[m] ++ [[59]]) := by
 rw [List.take_succ_eq_append_getElem hm, List.take_succ_eq_append_getElem (show m < ns.length by omega)]
 exact Sx.methods_append _ _ _ _ (by simp; omega)
theorem Sx.le_sum : ∀ {l : List Lx.Bytes} {s : Lx.Bytes}, s ∈ l → s.length ≤ (l.map List.length).sum
 | x :: l, s, h => by
  rw [List.map_cons, List.sum_cons]
  rcases List.mem_cons.1 h with rfl | h
  ·omega
  ·have := Sx.le_sum h; omega
theorem Sx.name_len {t : Sx.Ty} {s : Lx.Bytes} (h : s ∈ t.names) : s.length ≤ Sx.size t := by
 have h1 := Sx.size_parts t
 have h2 := Sx.le_sum h
 omega
set_option maxRecDepth 100000 in
set_option maxHeartbeats 8000000 in
theorem synTyp6 (N : Sx.Names) (hN : Sx.NamesOk N) (W0 : World) (b : Nat) (t : Sx.Ty) (ih : ∀ p ∈ t.parts, TypOk N W0 b p) (hkd : t.kind = 6) : TypOk N W0 b t := by
 intro d v c l w hr ht h hc
 obtain ⟨An, cn, Ae, ce, Ap, cp, rfl, hnm, hem, hp⟩ := ht.agg
 obtain ⟨d', rfl, hr', hsh⟩ := Sx.right_parts hr
 rw [hkd] at hsh ht ⊢
 have hsz := Sx.size_parts t
 have hs1 : c + 10 ≤ 1000000000 := by omega
 have hns : t.names.length = t.parts.length := by simp [Sx.shape] at hsh; omega
 have hes : t.embeds.length = t.parts.length := by simp [Sx.shape] at hsh; omega
 have HAP := Lib.hid (show ∀ s ∈ t.names, N.small s = true from Sx.apart_small (by simp [Sx.shape] at hsh; exact hsh.2))
 have HT := Lib.hid (show Sx.typ t = [[123]] ++ Sx.fields t.names t.embeds t.parts ++ [[125]] by rw [Sx.typ_eq, hkd]; simp)
 have HEM := Lib.hid hem
 have HES := Lib.hid hes
 have HNM := Lib.hid hnm
 have HNS := Lib.hid hns
 have HIH := Lib.hid ih
 have hlen := Sx.length_size t.parts
 obtain ⟨k, hk⟩ : ∃ k, t.parts.length = k := ⟨_, rfl⟩
 have hki : (k : Int) ≤ 1000000000 := by omega
 rw [hk] at hp ht ⊢
 have HK := Lib.hid hk
 have HR := Lib.hid hr'
 have HSZ := Lib.hid hsz
 have HTY := Lib.hid ht
 have HP := Lib.hid hp
 obtain ⟨L, hL⟩ : ∃ L, w.heap.size = L := ⟨_, rfl⟩
 obtain ⟨w2, hw2⟩ : ∃ w2, w.alloc (.cells #[.int .i64 6, .string ⟨t.name.toArray⟩, .slice An t.names.length cn, .slice Ae t.embeds.length ce, .slice Ap k cp] 26) = w2 := ⟨_, rfl⟩
 have hbox : w2.heap[L]? = some (.cells #[.int .i64 6, .string ⟨t.name.toArray⟩, .slice An t.names.length cn, .slice Ae t.embeds.length ce, .slice Ap k cp] 26 (0, 0)) := by rw [← hw2, ← hL]; exact heap_alloc_new w _
 have hW2 : Wrote W0 b c l w2 := by rw [← hw2]; exact h.grown (World.grownBy_alloc w _ none)
 have HKW := Lib.hid (show KeepW w w2 by rw [← hw2]; exact KeepW.alloc w _)
 have HBX := Lib.hid hbox
 have HW2 := Lib.hid hW2
 obtain ⟨x0, x1, x2, x3, x4⟩ := zcZ hbox
 have hl2 := zaZ hbox
 have hbl := hW2.lt
 clear ih hns hes hk hr hr' ht hp hnm hem hsz hW2 hbox h hsh hkd
 go_enter Tryz.func59, Tryz.ntmps59
 go_wp2_with (go_at_call 100; refine (put1 (s := [123]) HW2.out ⟨by simp, by simp⟩ (by omega)).mono ?_; rintro e w3 ⟨rfl, hW3, hk3⟩; have hbox3 := hk3 _ _ _ _ HBX.out (by decide) (by decide); clear x0 x1 x2 x3 x4; obtain ⟨x0, x1, x2, x3, x4⟩ := zcZ hbox3; have hl3 := zaZ hbox3; have HW3 := Lib.hid hW3; have HK3 := Lib.hid (HKW.out.trans hk3); have HBX3 := Lib.hid hbox3; clear hbox3 hW3 hk3)
 have H3 := Lib.hid (show Wrote W0 b (c + 1 + 10 * Sx.sizeL (t.parts.take 0)) (l ++ [[123]] ++ Sx.fields (t.names.take 0) (t.embeds.take 0) (t.parts.take 0)) w3 from (HW3.out.mono (by omega)).cast (by simp [Sx.fields, Sx.methods]))
 clear x0 x1 x2 x3 x4
 go_loopg [63] k (fun i v wr => ∃ (m : Nat), i = k - m ∧ v = .int .i64 (m : Int) ∧ m ≤ k ∧ Wrote W0 b (c + 1 + 10 * Sx.sizeL (t.parts.take m)) (l ++ [[123]] ++ Sx.fields (t.names.take m) (t.embeds.take m) (t.parts.take m)) wr ∧ KeepW w3 wr)
 case atStart => exact ⟨0, rfl, rfl, Nat.zero_le _, H3.out, KeepW.refl _⟩
 case round =>
  obtain ⟨m, hi, rfl, hm, hW, hkw⟩ := hrel
  have HI := Lib.hid hi
  have HWR := Lib.hid hW
  have m0 : (0 : Int) ≤ (m : Int) := by omega
  have hboxr := hkw _ _ _ _ HBX3.out (by decide) (by decide)
  have HBR := Lib.hid hboxr
  have HKR := Lib.hid hkw
  have hblr := hW.lt
  have hlr := zaZ hboxr
  have hSL := Sx.sizeL_take_le t.parts (m + 1)
  have hSL0 := Sx.sizeL_take_le t.parts m
  have hSZ : 1 + Sx.sizeL t.parts ≤ Sx.size t := by have := HSZ.out; omega
  clear hi hW hkw H3 HW3 HBX3
  by_cases hlt : m < k
  ·have hmi : (m : Int) < (k : Int) := by omega
   have hmp : m < t.parts.length := by have := HK.out; omega
   have hmn : m < t.names.length := by have := HNS.out; omega
   have hmni : (m : Int) < (t.names.length : Int) := by omega
   have hme : m < t.embeds.length := by have := HES.out; omega
   have hmei : (m : Int) < (t.embeds.length : Int) := by omega
   obtain ⟨g, off, An1, cn1, Ae1, ce1, Aq, cq, rfl, hty, hc5⟩ := HP.out.spot m hmp
   obtain ⟨g1, off1, rfl, hsp1⟩ := HNM.out.spot m hmn
   obtain ⟨g2, off2, rfl, hsp2⟩ := HEM.out.spot m hme
   have hst := Sx.size_take hmp
   have hpt := Sx.fields_take HNS.out HES.out hmp
   obtain ⟨p, hpe⟩ : ∃ p, t.parts[m]'hmp = p := ⟨_, rfl⟩
   obtain ⟨s, hse⟩ : ∃ s, t.names[m]'hmn = s := ⟨_, rfl⟩
   have hmem : p ∈ t.parts := by rw [← hpe]; exact List.getElem_mem hmp
   have hsm1 : s ∈ t.names := by rw [← hse]; exact List.getElem_mem hmn
   have hnl : s.length ≤ 1000000000 := by have := Sx.name_len hsm1; omega
   have HNE := Lib.hid (hN.small _ (HAP.out s hsm1))
   rw [hpe] at hc5 hty hst hpt
   rw [hse] at hsp1 hpt
   obtain ⟨hg, c0, c1, c2, c3, c4⟩ := hc5 wr HWR.out.below
   have hps := Sx.size_pos p
   have HTY2 := Lib.hid hty
   have HMEM := Lib.hid hmem
   have HS1 := Lib.hid hsp1
   obtain ⟨e, hee⟩ : ∃ e, t.embeds[m]'hme = e := ⟨_, rfl⟩
   rw [hee] at hsp2 hpt
   have HS2 := Lib.hid hsp2
   have HPT := Lib.hid hpt
   obtain ⟨sp, hsp⟩ : ∃ sp, Sx.size p = sp := ⟨_, rfl⟩
   obtain ⟨sm, hsm⟩ : ∃ sm, Sx.sizeL (t.parts.take m) = sm := ⟨_, rfl⟩
   rw [hsp, hsm] at hst
   rw [hst] at hSL
   rw [hsp] at hps
   have HSP := Lib.hid hsp
   have HST := Lib.hid hst
   have HSM := Lib.hid hsm
   have hbud : c + 10 + 10 * (sm + sp) ≤ 1000000000 := by omega
   obtain ⟨L4, hL4⟩ : ∃ L, wr.heap.size = L := ⟨_, rfl⟩
   obtain ⟨w4, hw4⟩ : ∃ w4, wr.alloc (.cells #[.int .i64 p.kind, .string ⟨p.name.toArray⟩, .slice An1 p.names.length cn1, .slice Ae1 p.embeds.length ce1, .slice Aq p.parts.length cq] 26) = w4 := ⟨_, rfl⟩
   have hbox4 : w4.heap[L4]? = some (.cells #[.int .i64 p.kind, .string ⟨p.name.toArray⟩, .slice An1 p.names.length cn1, .slice Ae1 p.embeds.length ce1, .slice Aq p.parts.length cq] 26 (0, 0)) := by rw [← hw4, ← hL4]; exact heap_alloc_new wr _
   have HBX4 := Lib.hid hbox4
   have HW4 := Lib.hid (show Wrote W0 b (c + 1 + 10 * sm) (l ++ [[123]] ++ Sx.fields (t.names.take m) (t.embeds.take m) (t.parts.take m)) w4 by rw [← hw4, ← HSM.out]; exact HWR.out.grown (World.grownBy_alloc wr _ none))
   have HK4 := Lib.hid (show KeepW wr w4 by rw [← hw4]; exact KeepW.alloc wr _)
   have HBL4 := Lib.hid (HK4.out _ _ _ _ HBR.out (by decide) (by decide))
   have hl4 : L4 < w4.heap.size := zaZ hbox4
   have hll4 : L < w4.heap.size := zaZ HBL4.out
   have hbl4 : b < w4.heap.size := HW4.out.lt
   clear hty hpt hmem hpe hsp hsm hst hbox4 hse hsm1 hc5 hsp1 hsp2 hee
   obtain ⟨x0, x1, x2, x3, x4⟩ := zcZ HBL4.out
   obtain ⟨z0, z1⟩ := HS2.out w4 HW4.out.below
   cases e with
   | true =>
    go_wp2_with (go_at_call 100; refine (put1 (s := [101, 109, 98, 101, 100]) HW4.out ⟨by simp, by simp⟩ (by omega)).mono ?_; rintro e w5 ⟨rfl, hW5, hk5⟩; have HBL5 := Lib.hid (hk5 _ _ _ _ HBL4.out (by decide) (by decide)); have HBX5 := Lib.hid (hk5 _ _ _ _ HBX4.out (by decide) (by decide)); clear x0 x1 x2 x3 x4 z0 z1; have HW5 := Lib.hid hW5; have HK5 := Lib.hid hk5; have hl5 := zaZ HBX5.out; have hll5 := zaZ HBL5.out; have hbl5 := hW5.lt; clear hW5 hk5)
    obtain ⟨x0, x1, x2, x3, x4⟩ := zcZ HBL5.out
    obtain ⟨y0, y1, y2, y3, y4⟩ := zcZ HBX5.out
    obtain ⟨q0, q1⟩ := HS1.out w5 HW5.out.below
    have HWD := Lib.hid HW5.out.drew
    go_region_with (go_at_call 100; refine (put1 (s := s) HWD.out ⟨HNE.out, hnl⟩ (by omega)).mono ?_; rintro e w6 ⟨rfl, hW6, hk6⟩)
    all_goals
     have hbox6 := hk6 _ _ _ _ HBX5.out (by decide) (by decide)
     clear x0 x1 x2 x3 x4 y0 y1 y2 y3 y4 q0 q1
     obtain ⟨y0, y1, y2, y3, y4⟩ := zcZ hbox6
     have hl6 := zaZ hbox6
     have HW6 := Lib.hid hW6
     have HK6 := Lib.hid hk6
     have hbl6 := hW6.lt
     clear hbox6 hW6 hk6
     go_wp2_with (first
      | (go_at_call 59; refine (HIH.out p HMEM.out d' _ _ _ w6 (HR.out p HMEM.out) HTY2.out HW6.out (by rw [HSP.out]; omega)).mono ?_; rintro e w7 ⟨rfl, hW7, hk7⟩; rw [HSP.out] at hW7; have HW7 := Lib.hid hW7; have HK7 := Lib.hid hk7; have hbl7 := hW7.lt; clear hW7 hk7)
      | (go_at_call 100; refine (put1 (s := [59]) HW7.out ⟨by simp, by simp⟩ (by omega)).mono ?_; rintro e w8 ⟨rfl, hW8, hk8⟩))
     go_roundg (k - (m + 1))
     case measure => have := HI.out; omega
     case rel =>
      refine ⟨m + 1, rfl, by simp, hlt, (hW8.mono ?_).cast ?_, ((((HKR.out.trans HK4.out).trans HK5.out).trans HK6.out).trans HK7.out).trans hk8⟩
      ·rw [HST.out]; omega
      ·rw [HPT.out]; simp [List.append_assoc]
   | false =>
    go_wp2_with fail
    clear x0 x1 x2 x3 x4 z0 z1
    obtain ⟨x0, x1, x2, x3, x4⟩ := zcZ HBL4.out
    obtain ⟨y0, y1, y2, y3, y4⟩ := zcZ HBX4.out
    obtain ⟨q0, q1⟩ := HS1.out w4 HW4.out.below
    have HWD := Lib.hid HW4.out.drew
    go_region_with (go_at_call 100; refine (put1 (s := s) HWD.out ⟨HNE.out, hnl⟩ (by omega)).mono ?_; rintro e w6 ⟨rfl, hW6, hk6⟩)
    all_goals
     have hbox6 := hk6 _ _ _ _ HBX4.out (by decide) (by decide)
     clear x0 x1 x2 x3 x4 y0 y1 y2 y3 y4 q0 q1
     obtain ⟨y0, y1, y2, y3, y4⟩ := zcZ hbox6
     have hl6 := zaZ hbox6
     have HW6 := Lib.hid hW6
     have HK6 := Lib.hid hk6
     have hbl6 := hW6.lt
     clear hbox6 hW6 hk6
     go_wp2_with (first
      | (go_at_call 59; refine (HIH.out p HMEM.out d' _ _ _ w6 (HR.out p HMEM.out) HTY2.out HW6.out (by rw [HSP.out]; omega)).mono ?_; rintro e w7 ⟨rfl, hW7, hk7⟩; rw [HSP.out] at hW7; have HW7 := Lib.hid hW7; have HK7 := Lib.hid hk7; have hbl7 := hW7.lt; clear hW7 hk7)
      | (go_at_call 100; refine (put1 (s := [59]) HW7.out ⟨by simp, by simp⟩ (by omega)).mono ?_; rintro e w8 ⟨rfl, hW8, hk8⟩))
     go_roundg (k - (m + 1))
     case measure => have := HI.out; omega
     case rel =>
      refine ⟨m + 1, rfl, by simp, hlt, (hW8.mono ?_).cast ?_, ((((HKR.out.trans HK4.out)).trans HK6.out).trans HK7.out).trans hk8⟩
      ·rw [HST.out]; omega
      ·rw [HPT.out]; simp [List.append_assoc]
  ·have hmi : ¬ (m : Int) < (k : Int) := by omega
   have hlast : Sx.fields (t.names.take m) (t.embeds.take m) (t.parts.take m) = Sx.fields t.names t.embeds t.parts := by
    rw [List.take_of_length_le (show t.names.length ≤ m by have := HK.out; have := HNS.out; omega), List.take_of_length_le (show t.parts.length ≤ m by have := HK.out; omega), List.take_of_length_le (show t.embeds.length ≤ m by have := HK.out; have := HES.out; omega)]
   have HLA := Lib.hid hlast
   have hbud : c + 10 + 10 * Sx.sizeL (t.parts.take m) ≤ 1000000000 := by omega
   clear hlast
   go_wp2_with (go_at_call 100; refine (put1 (s := [125]) HWR.out ⟨by simp, by simp⟩ (by omega)).mono ?_; rintro e w5 ⟨rfl, hW5, hk5⟩)
   go_end0
   refine ⟨rfl, (hW5.mono ?_).cast ?_, (HK3.out.trans HKR.out).trans hk5⟩
   ·omega
   ·rw [HT.out, HLA.out]; simp [List.append_assoc]
set_option maxRecDepth 100000 in
set_option maxHeartbeats 8000000 in
theorem synTyp8 (N : Sx.Names) (hN : Sx.NamesOk N) (W0 : World) (b : Nat) (t : Sx.Ty) (ih : ∀ p ∈ t.parts, SigOk N W0 b p) (hkd : t.kind = 8) : TypOk N W0 b t := by
 intro d v c l w hr ht h hc
 obtain ⟨An, cn, Ae, ce, Ap, cp, rfl, hnm, hem, hp⟩ := ht.agg
 obtain ⟨d', rfl, hr', hsh⟩ := Sx.right_parts hr
 rw [hkd] at hsh ht ⊢
 have hsz := Sx.size_parts t
 have hs1 : c + 10 ≤ 1000000000 := by omega
 have hns : t.names.length = t.parts.length := by simp [Sx.shape] at hsh; omega
 have HAP := Lib.hid (show ∀ s ∈ t.names, N.small s = true from Sx.apart_small (by simp [Sx.shape] at hsh; exact hsh.2.2))
 have HFN := Lib.hid (show ∀ p ∈ t.parts, p.kind = 7 by simp [Sx.shape] at hsh; exact hsh.1)
 have HT := Lib.hid (show Sx.typ t = [[105, 110, 116, 101, 114, 102, 97, 99, 101], [123]] ++ Sx.methods t.names t.parts ++ [[125]] by rw [Sx.typ_eq, hkd]; simp)
 have HNM := Lib.hid hnm
 have HNS := Lib.hid hns
 have HIH := Lib.hid ih
 have hlen := Sx.length_size t.parts
 obtain ⟨k, hk⟩ : ∃ k, t.parts.length = k := ⟨_, rfl⟩
 have hki : (k : Int) ≤ 1000000000 := by omega
 rw [hk] at hp ht ⊢
 have HK := Lib.hid hk
 have HR := Lib.hid hr'
 have HSZ := Lib.hid hsz
 have HTY := Lib.hid ht
 have HP := Lib.hid hp
 obtain ⟨L, hL⟩ : ∃ L, w.heap.size = L := ⟨_, rfl⟩
 obtain ⟨w2, hw2⟩ : ∃ w2, w.alloc (.cells #[.int .i64 8, .string ⟨t.name.toArray⟩, .slice An t.names.length cn, .slice Ae t.embeds.length ce, .slice Ap k cp] 26) = w2 := ⟨_, rfl⟩
 have hbox : w2.heap[L]? = some (.cells #[.int .i64 8, .string ⟨t.name.toArray⟩, .slice An t.names.length cn, .slice Ae t.embeds.length ce, .slice Ap k cp] 26 (0, 0)) := by rw [← hw2, ← hL]; exact heap_alloc_new w _
 have hW2 : Wrote W0 b c l w2 := by rw [← hw2]; exact h.grown (World.grownBy_alloc w _ none)
 have HKW := Lib.hid (show KeepW w w2 by rw [← hw2]; exact KeepW.alloc w _)
 have HBX := Lib.hid hbox
 have HW2 := Lib.hid hW2
 obtain ⟨x0, x1, x2, x3, x4⟩ := zcZ hbox
 have hl2 := zaZ hbox
 have hbl := hW2.lt
 clear ih hns hk hr hr' ht hp hnm hem hsz hW2 hbox h hsh hkd
 go_enter Tryz.func59, Tryz.ntmps59
 go_wp2_with (go_at_call 100; refine (put2 (s := [105, 110, 116, 101, 114, 102, 97, 99, 101]) (t := [123]) HW2.out ⟨by simp, by simp⟩ ⟨by simp, by simp⟩ (by omega)).mono ?_; rintro e w3 ⟨rfl, hW3, hk3⟩; have hbox3 := hk3 _ _ _ _ HBX.out (by decide) (by decide); clear x0 x1 x2 x3 x4; obtain ⟨x0, x1, x2, x3, x4⟩ := zcZ hbox3; have hl3 := zaZ hbox3; have HW3 := Lib.hid hW3; have HK3 := Lib.hid (HKW.out.trans hk3); have HBX3 := Lib.hid hbox3; clear hbox3 hW3 hk3)
 have H3 := Lib.hid (show Wrote W0 b (c + 2 + 10 * Sx.sizeL (t.parts.take 0)) (l ++ [[105, 110, 116, 101, 114, 102, 97, 99, 101], [123]] ++ Sx.methods (t.names.take 0) (t.parts.take 0)) w3 from (HW3.out.mono (by omega)).cast (by simp [Sx.fields, Sx.methods]))
 clear x0 x1 x2 x3 x4
 go_loopg [122] k (fun i v wr => ∃ (m : Nat), i = k - m ∧ v = .int .i64 (m : Int) ∧ m ≤ k ∧ Wrote W0 b (c + 2 + 10 * Sx.sizeL (t.parts.take m)) (l ++ [[105, 110, 116, 101, 114, 102, 97, 99, 101], [123]] ++ Sx.methods (t.names.take m) (t.parts.take m)) wr ∧ KeepW w3 wr)
 case atStart => exact ⟨0, rfl, rfl, Nat.zero_le _, H3.out, KeepW.refl _⟩
 case round =>
  obtain ⟨m, hi, rfl, hm, hW, hkw⟩ := hrel
  have HI := Lib.hid hi
  have HWR := Lib.hid hW
  have m0 : (0 : Int) ≤ (m : Int) := by omega
  have hboxr := hkw _ _ _ _ HBX3.out (by decide) (by decide)
  have HBR := Lib.hid hboxr
  have HKR := Lib.hid hkw
  have hblr := hW.lt
  have hlr := zaZ hboxr
  have hSL := Sx.sizeL_take_le t.parts (m + 1)
  have hSL0 := Sx.sizeL_take_le t.parts m
  have hSZ : 1 + Sx.sizeL t.parts ≤ Sx.size t := by have := HSZ.out; omega
  clear hi hW hkw H3 HW3 HBX3
  by_cases hlt : m < k
  ·have hmi : (m : Int) < (k : Int) := by omega
   have hmp : m < t.parts.length := by have := HK.out; omega
   have hmn : m < t.names.length := by have := HNS.out; omega
   have hmni : (m : Int) < (t.names.length : Int) := by omega
   obtain ⟨g, off, An1, cn1, Ae1, ce1, Aq, cq, rfl, hty, hc5⟩ := HP.out.spot m hmp
   obtain ⟨g1, off1, rfl, hsp1⟩ := HNM.out.spot m hmn
   have hst := Sx.size_take hmp
   have hpt := Sx.methods_take HNS.out hmp
   obtain ⟨p, hpe⟩ : ∃ p, t.parts[m]'hmp = p := ⟨_, rfl⟩
   obtain ⟨s, hse⟩ : ∃ s, t.names[m]'hmn = s := ⟨_, rfl⟩
   have hmem : p ∈ t.parts := by rw [← hpe]; exact List.getElem_mem hmp
   have hsm1 : s ∈ t.names := by rw [← hse]; exact List.getElem_mem hmn
   have hnl : s.length ≤ 1000000000 := by have := Sx.name_len hsm1; omega
   have HNE := Lib.hid (hN.small _ (HAP.out s hsm1))
   rw [hpe] at hc5 hty hst hpt
   rw [hse] at hsp1 hpt
   obtain ⟨hg, c0, c1, c2, c3, c4⟩ := hc5 wr HWR.out.below
   have hps := Sx.size_pos p
   have HTY2 := Lib.hid hty
   have HMEM := Lib.hid hmem
   have HS1 := Lib.hid hsp1
   have HPT := Lib.hid hpt
   obtain ⟨sp, hsp⟩ : ∃ sp, Sx.size p = sp := ⟨_, rfl⟩
   obtain ⟨sm, hsm⟩ : ∃ sm, Sx.sizeL (t.parts.take m) = sm := ⟨_, rfl⟩
   rw [hsp, hsm] at hst
   rw [hst] at hSL
   rw [hsp] at hps
   have HSP := Lib.hid hsp
   have HST := Lib.hid hst
   have HSM := Lib.hid hsm
   have hbud : c + 10 + 10 * (sm + sp) ≤ 1000000000 := by omega
   obtain ⟨L4, hL4⟩ : ∃ L, wr.heap.size = L := ⟨_, rfl⟩
   obtain ⟨w4, hw4⟩ : ∃ w4, wr.alloc (.cells #[.int .i64 p.kind, .string ⟨p.name.toArray⟩, .slice An1 p.names.length cn1, .slice Ae1 p.embeds.length ce1, .slice Aq p.parts.length cq] 26) = w4 := ⟨_, rfl⟩
   have hbox4 : w4.heap[L4]? = some (.cells #[.int .i64 p.kind, .string ⟨p.name.toArray⟩, .slice An1 p.names.length cn1, .slice Ae1 p.embeds.length ce1, .slice Aq p.parts.length cq] 26 (0, 0)) := by rw [← hw4, ← hL4]; exact heap_alloc_new wr _
   have HBX4 := Lib.hid hbox4
   have HW4 := Lib.hid (show Wrote W0 b (c + 2 + 10 * sm) (l ++ [[105, 110, 116, 101, 114, 102, 97, 99, 101], [123]] ++ Sx.methods (t.names.take m) (t.parts.take m)) w4 by rw [← hw4, ← HSM.out]; exact HWR.out.grown (World.grownBy_alloc wr _ none))
   have HK4 := Lib.hid (show KeepW wr w4 by rw [← hw4]; exact KeepW.alloc wr _)
   have HBL4 := Lib.hid (HK4.out _ _ _ _ HBR.out (by decide) (by decide))
   have hl4 : L4 < w4.heap.size := zaZ hbox4
   have hll4 : L < w4.heap.size := zaZ HBL4.out
   have hbl4 : b < w4.heap.size := HW4.out.lt
   clear hty hpt hmem hpe hsp hsm hst hbox4 hse hsm1 hc5 hsp1
   have HPR := Lib.hid (show (∀ q ∈ p.parts, Sx.rightT N (d' - 1) q = true) ∧ p.parts ≠ [] by
    obtain ⟨e', he', hq, hs'⟩ := Sx.right_parts (HR.out p HMEM.out)
    refine ⟨fun q hq' => by rw [he']; exact hq q hq', ?_⟩
    rw [HFN.out p HMEM.out] at hs'
    rintro e
    simp [Sx.shape, e] at hs')
   go_wp2_with fail
   obtain ⟨x0, x1, x2, x3, x4⟩ := zcZ HBL4.out
   obtain ⟨y0, y1, y2, y3, y4⟩ := zcZ HBX4.out
   obtain ⟨q0, q1⟩ := HS1.out w4 HW4.out.below
   have HWD := Lib.hid HW4.out.drew
   go_region_with (go_at_call 100; refine (put1 (s := s) HWD.out ⟨HNE.out, hnl⟩ (by omega)).mono ?_; rintro e w6 ⟨rfl, hW6, hk6⟩)
   all_goals
    have hbox6 := hk6 _ _ _ _ HBX4.out (by decide) (by decide)
    clear x0 x1 x2 x3 x4 y0 y1 y2 y3 y4 q0 q1
    obtain ⟨y0, y1, y2, y3, y4⟩ := zcZ hbox6
    have hl6 := zaZ hbox6
    have HW6 := Lib.hid hW6
    have HK6 := Lib.hid hk6
    have hbl6 := hW6.lt
    clear hbox6 hW6 hk6
    go_wp2_with (first
     | (go_at_call 109; refine (HIH.out p HMEM.out _ _ _ _ w6 HPR.out.1 HPR.out.2 HTY2.out HW6.out (by rw [HSP.out]; omega)).mono ?_; rintro e w7 ⟨rfl, hW7, hk7⟩; rw [HSP.out] at hW7; have HW7 := Lib.hid hW7; have HK7 := Lib.hid hk7; have hbl7 := hW7.lt; clear hW7 hk7)
     | (go_at_call 100; refine (put1 (s := [59]) HW7.out ⟨by simp, by simp⟩ (by omega)).mono ?_; rintro e w8 ⟨rfl, hW8, hk8⟩))
    go_roundg (k - (m + 1))
    case measure => have := HI.out; omega
    case rel =>
     refine ⟨m + 1, rfl, by simp, hlt, (hW8.mono ?_).cast ?_, ((((HKR.out.trans HK4.out)).trans HK6.out).trans HK7.out).trans hk8⟩
     ·rw [HST.out]; omega
     ·rw [HPT.out]; simp [List.append_assoc]
  ·have hmi : ¬ (m : Int) < (k : Int) := by omega
   have hlast : Sx.methods (t.names.take m) (t.parts.take m) = Sx.methods t.names t.parts := by
    rw [List.take_of_length_le (show t.names.length ≤ m by have := HK.out; have := HNS.out; omega), List.take_of_length_le (show t.parts.length ≤ m by have := HK.out; omega)]
   have HLA := Lib.hid hlast
   have hbud : c + 10 + 10 * Sx.sizeL (t.parts.take m) ≤ 1000000000 := by omega
   clear hlast
   go_wp2_with (go_at_call 100; refine (put1 (s := [125]) HWR.out ⟨by simp, by simp⟩ (by omega)).mono ?_; rintro e w5 ⟨rfl, hW5, hk5⟩)
   go_end0
   refine ⟨rfl, (hW5.mono ?_).cast ?_, (HK3.out.trans HKR.out).trans hk5⟩
   ·omega
   ·rw [HT.out, HLA.out]; simp [List.append_assoc]
end Go.Proofs.YtdncljdfmdgdaaaGreatDoor
namespace Go.Proofs.YtdncljdfmdgdaaaGreatDoor
open Go.RowKit Go.Shelf
set_option linter.unusedSimpArgs false
set_option linter.unusedVariables false
mutual
def Sx.fits : Sx.Ty → Prop
 | .mk _ n ns es ps => n.length ≤ 140737488351232 ∧ ns.length ≤ 140737488351232 ∧ es.length ≤ 140737488351232 ∧ ps.length ≤ 140737488351232 ∧ (∀ s ∈ ns, s.length ≤ 140737488351232) ∧ Sx.fitsL ps
def Sx.fitsL : List Sx.Ty → Prop
 | [] => True
 | t :: l => Sx.fits t ∧ Sx.fitsL l
end
theorem Sx.fitsL_mem : ∀ {l : List Sx.Ty} {t : Sx.Ty}, Sx.fitsL l → t ∈ l → Sx.fits t
 | u :: l, t, h, hm => by
  rw [Sx.fitsL] at h
  rcases List.mem_cons.1 hm with rfl | hm
  ·exact h.1
  ·exact Sx.fitsL_mem h.2 hm
theorem Sx.fits_parts {t : Sx.Ty} (h : Sx.fits t) : t.name.length ≤ 140737488351232 ∧ t.names.length ≤ 140737488351232 ∧ t.embeds.length ≤ 140737488351232 ∧ t.parts.length ≤ 140737488351232 ∧ (∀ s ∈ t.names, s.length ≤ 140737488351232) ∧ ∀ p ∈ t.parts, Sx.fits p := by
 cases t
 rw [Sx.fits] at h
 obtain ⟨a, b, c, d, e, f⟩ := h
 exact ⟨a, b, c, d, e, fun p hp => Sx.fitsL_mem f hp⟩
theorem Sx.sum_take {ns : List Lx.Bytes} {m : Nat} (h : m < ns.length) : ((ns.take (m + 1)).map List.length).sum = ((ns.take m).map List.length).sum + (ns[m]).length := by
 rw [List.take_succ_eq_append_getElem h, List.map_append, List.sum_append]
 simp
def SizeIs (most sz : Nat) (W : World) (e : Ending) (W' : World) : Prop := ∃ r : Nat, e = .returned (.int .i64 (r : Nat)) ∧ r ≤ most + 500000000000000 ∧ (r < most → r = sz) ∧ Below W.heap.size W W'
set_option maxRecDepth 100000 in
set_option maxHeartbeats 8000000 in
theorem zlxZ : ∀ (n : Nat) (t : Sx.Ty), Sx.size t ≤ n → Sx.fits t → ∀ (most : Nat) (v : Value) (W : World), 1 ≤ most → most ≤ 1000000 → IsTy W v t →
  Calls Tryz.prog 25 #[v, .int .i64 (most : Nat)] W (SizeIs most (Sx.size t) W) := by
 intro n
 induction n with
 | zero => intro t h; have := Sx.size_pos t; omega
 | succ n ih =>
  intro t hn hf most v W hm1 hm2 ht
  obtain ⟨f1, f2, f3, f4, f5, f6⟩ := Sx.fits_parts hf
  obtain ⟨An, cn, Ae, ce, Ap, cp, rfl, hnm, hem, hp⟩ := ht.agg
  have hsp := Sx.size_parts t
  obtain ⟨nl, hnl⟩ : ∃ k, t.names.length = k := ⟨_, rfl⟩
  obtain ⟨el, hel⟩ : ∃ k, t.embeds.length = k := ⟨_, rfl⟩
  obtain ⟨k, hk⟩ : ∃ k, t.parts.length = k := ⟨_, rfl⟩
  obtain ⟨ll, hll⟩ : ∃ k, t.name.length = k := ⟨_, rfl⟩
  rw [hnl, hel, hll] at hsp
  rw [hnl] at f2 hnm
  rw [hel] at f3
  rw [hk] at f4 hp
  rw [hll] at f1
  rw [hnl, hel, hk]
  have i1 : (0 : Int) ≤ (ll : Int) ∧ (ll : Int) ≤ 140737488351232 := by omega
  have i2 : (0 : Int) ≤ (nl : Int) ∧ (nl : Int) ≤ 140737488351232 := by omega
  have i3 : (0 : Int) ≤ (el : Int) ∧ (el : Int) ≤ 140737488351232 := by omega
  have i4 : (0 : Int) ≤ (k : Int) ∧ (k : Int) ≤ 140737488351232 := by omega
  have i5 : (1 : Int) ≤ (most : Int) ∧ (most : Int) ≤ 1000000 := by omega
  obtain ⟨i1a, i1b⟩ := i1
  obtain ⟨i2a, i2b⟩ := i2
  obtain ⟨i3a, i3b⟩ := i3
  obtain ⟨i4a, i4b⟩ := i4
  obtain ⟨i5a, i5b⟩ := i5
  have hstr : (⟨t.name.toArray⟩ : ByteArray).size = ll := by simp [ByteArray.size, hll]
  have HIH := Lib.hid ih
  have HSP := Lib.hid hsp
  have HN := Lib.hid hn
  have HNM := Lib.hid hnm
  have HP := Lib.hid hp
  have HF5 := Lib.hid f5
  have HF6 := Lib.hid f6
  have HNL := Lib.hid hnl
  have HK := Lib.hid hk
  obtain ⟨L, hL⟩ : ∃ L, W.heap.size = L := ⟨_, rfl⟩
  obtain ⟨w2, hw2⟩ : ∃ w2, W.alloc (.cells #[.int .i64 t.kind, .string ⟨t.name.toArray⟩, .slice An nl cn, .slice Ae el ce, .slice Ap k cp] 26) = w2 := ⟨_, rfl⟩
  have hbox : w2.heap[L]? = some (.cells #[.int .i64 t.kind, .string ⟨t.name.toArray⟩, .slice An nl cn, .slice Ae el ce, .slice Ap k cp] 26 (0, 0)) := by rw [← hw2, ← hL]; exact heap_alloc_new W _
  have hb2 : Below L W w2 := by rw [← hw2, ← hL]; exact zdZ (World.grownBy_alloc W _ none)
  obtain ⟨x0, x1, x2, x3, x4⟩ := zcZ hbox
  have hl2 := zaZ hbox
  have HBX := Lib.hid hbox
  have HB2 := Lib.hid hb2
  have HL := Lib.hid hL
  clear ih hsp hn hnm hem hp f5 f6 hnl hel hk hll ht hf hbox hb2
  go_enter Tryz.func25, Tryz.ntmps25
  go_upto_block 0 with (fail)
  obtain ⟨bs, hbs⟩ : ∃ b : Int, 1 + (ll : Int) + (nl : Int) + (el : Int) = b := ⟨_, rfl⟩
  have HBS := Lib.hid hbs
  rw [hbs]
  clear hbs
  go_cut [5] (fun v wx => wx = w2 ∧ ∃ r : Nat, v = .int .i64 (r : Nat) ∧ r ≤ most + 500000000000000 ∧ (r < most → r = 1 + ll + nl + el + (t.names.map List.length).sum))
  case first =>
   go_wp2_with fail
   go_loopg [5, 6] nl (fun i v u wr => ∃ (m r : Nat), i = nl - m ∧ v = .int .i64 (r : Nat) ∧ u = .int .i64 (m : Nat) ∧ m ≤ nl ∧ r ≤ most + 500000000000000 ∧ (r < most → r = 1 + ll + nl + el + ((t.names.take m).map List.length).sum) ∧ wr = w2)
   case atStart => exact ⟨0, 1 + ll + nl + el, rfl, by have := HBS.out; congr 1; omega, rfl, Nat.zero_le _, by omega, by simp, rfl⟩
   case round =>
    obtain ⟨m, r, hi, rfl, rfl, hm, hr1, hr2, rfl⟩ := hrel
    have HI := Lib.hid hi
    have HR2 := Lib.hid hr2
    have m0 : (0 : Int) ≤ (m : Int) := by omega
    have r0 : (0 : Int) ≤ (r : Int) := by omega
    have r1 : (r : Int) ≤ 500000001000000 := by omega
    clear hi hr2
    by_cases hlt : m < nl
    ·have hmi : (m : Int) < (nl : Int) := by omega
     by_cases hrm : r < most
     ·have hri : (r : Int) < (most : Int) := by omega
      have hmn : m < t.names.length := by have := HNL.out; omega
      obtain ⟨g1, off1, rfl, hsp1⟩ := HNM.out.spot m hmn
      obtain ⟨hg1, q1⟩ := hsp1 wr (by rw [HL.out]; exact HB2.out)
      have hst := Sx.sum_take hmn
      have hfl := HF5.out _ (List.getElem_mem hmn)
      obtain ⟨s, hse⟩ : ∃ s, t.names[m]'hmn = s := ⟨_, rfl⟩
      rw [hse] at q1 hst hfl
      obtain ⟨sl, hsl⟩ : ∃ k, s.length = k := ⟨_, rfl⟩
      have hsz : (⟨s.toArray⟩ : ByteArray).size = sl := by simp [ByteArray.size, hsl]
      rw [hsl] at hst hfl
      have s0 : (0 : Int) ≤ (sl : Int) := by omega
      have s1 : (sl : Int) ≤ 140737488351232 := by omega
      have HST := Lib.hid hst
      have HRR := Lib.hid (HR2.out hrm)
      clear hst hse hsl hsp1
      go_wp2_with fail
      go_roundg (nl - (m + 1))
      case measure => have := HI.out; omega
      case rel => exact ⟨m + 1, r + sl, rfl, by simp, by simp, hlt, by omega, fun _ => by rw [HST.out, HRR.out]; omega, rfl⟩
     ·have hri : decide ((r : Int) < (most : Int)) = false := by rw [decide_eq_false_iff_not]; omega
      have hri2 : ¬ (r : Int) < (most : Int) := by omega
      go_wp2_with fail
      go_meet
      exact ⟨rfl, r, rfl, hr1, fun h => absurd h hrm⟩
    ·have hmi : decide ((m : Int) < (nl : Int)) = false := by rw [decide_eq_false_iff_not]; omega
     have hmi2 : ¬ (m : Int) < (nl : Int) := by omega
     have hfull := List.take_of_length_le (show t.names.length ≤ m by have := HNL.out; omega)
     have HFU := Lib.hid hfull
     clear hfull
     go_wp2_with fail
     go_meet
     exact ⟨rfl, r, rfl, hr1, fun h => by rw [HR2.out h, HFU.out]⟩
  case rest =>
   obtain ⟨rfl, r, rfl, hr1, hr2⟩ := hcut
   have HR2 := Lib.hid hr2
   have r0 : (0 : Int) ≤ (r : Int) := by omega
   have r1 : (r : Int) ≤ 500000001000000 := by omega
   clear hr2
   go_wp2_with fail
   clear x0 x1 x2 x3 x4
   go_loopg [5, 7] k (fun i v u wr => ∃ (m r : Nat), i = k - m ∧ v = .int .i64 (r : Nat) ∧ u = .int .i64 (m : Nat) ∧ m ≤ k ∧ r ≤ most + 500000000000000 ∧ (r < most → r = 1 + ll + nl + el + (t.names.map List.length).sum + Sx.sizeL (t.parts.take m)) ∧ Below L W wr ∧ wr.heap[L]? = wc.heap[L]?)
   case atStart => exact ⟨0, r, rfl, rfl, rfl, Nat.zero_le _, hr1, by have := HR2.out; simpa [Sx.sizeL] using this, HB2.out, rfl⟩
   case round =>
    obtain ⟨m, q, hi, rfl, rfl, hm, hq1, hq2, hwr, hbr⟩ := hrel
    rw [HBX.out] at hbr
    obtain ⟨x0, x1, x2, x3, x4⟩ := zcZ hbr
    have hlr := zaZ hbr
    have hLs : L ≤ wr.heap.size := by omega
    have HI := Lib.hid hi
    have HQ2 := Lib.hid hq2
    have HWR := Lib.hid hwr
    have HBR := Lib.hid hbr
    have m0 : (0 : Int) ≤ (m : Int) := by omega
    have q0 : (0 : Int) ≤ (q : Int) := by omega
    have q1 : (q : Int) ≤ 500000001000000 := by omega
    clear hi hq2 hwr hbr
    by_cases hlt : m < k
    ·have hmi : (m : Int) < (k : Int) := by omega
     by_cases hrm : q < most
     ·have hri : (q : Int) < (most : Int) := by omega
      have hmp : m < t.parts.length := by have := HK.out; omega
      obtain ⟨g, off, An1, cn1, Ae1, ce1, Aq, cq, rfl, hty, hc5⟩ := HP.out.spot m hmp
      rw [HL.out] at hc5
      obtain ⟨hg, c0, c1, c2, c3, c4⟩ := hc5 wr HWR.out
      have hst := Sx.size_take hmp
      have hff := HF6.out _ (List.getElem_mem hmp)
      have hsm := Sx.size_mem (List.getElem_mem hmp)
      obtain ⟨p, hpe⟩ : ∃ p, t.parts[m]'hmp = p := ⟨_, rfl⟩
      rw [hpe] at c0 c1 c2 c3 c4 hty hst hff hsm
      obtain ⟨d, hd⟩ : ∃ d : Int, (most : Int) - (q : Int) = d := ⟨_, rfl⟩
      have d0 : 1 ≤ d := by omega
      have d1 : d ≤ 1000000 := by omega
      have hre := HIH.out p (by have := HN.out; have := HSP.out; omega) hff (most - q) _ wr (by omega) (by omega) (IsTy.below (by rw [HL.out]; exact HWR.out) _ _ hty)
      rw [show ((most - q : Nat) : Int) = d by omega] at hre
      have HRE := Lib.hid hre
      have HST := Lib.hid hst
      have HQR := Lib.hid (HQ2.out hrm)
      clear hre hst hff hsm hpe hty hc5
      go_wp2_with fail
      refine HRE.out.mono ?_
      rintro e w5 ⟨z, rfl, hz1, hz2, hb5⟩
      have z0 : (0 : Int) ≤ (z : Int) := by omega
      have hz3 : z + q ≤ most + 500000000000000 := by omega
      have z1 : (z : Int) ≤ 500000001000000 := by omega
      have z2 : (q : Int) + (z : Int) ≤ 500000001000000 := by omega
      have HZ2 := Lib.hid hz2
      clear hz2
      go_wp2_with fail
      go_roundg (k - (m + 1))
      case measure => have := HI.out; omega
      case rel =>
       refine ⟨m + 1, q + z, rfl, by simp, by simp, hlt, by omega, fun hlz => ?_, HWR.out.trans (hb5.mono hLs), ?_⟩
       ·rw [HST.out, HZ2.out (by omega), HQR.out]; omega
       ·rw [HBX.out, hb5.block L hlr, HBR.out]
     ·have hri : decide ((q : Int) < (most : Int)) = false := by rw [decide_eq_false_iff_not]; omega
      have hri2 : ¬ (q : Int) < (most : Int) := by omega
      go_wp2_with fail
      go_ret
      exact ⟨q, rfl, hq1, fun h => absurd h hrm, by rw [HL.out]; exact HWR.out⟩
    ·have hmi : decide ((m : Int) < (k : Int)) = false := by rw [decide_eq_false_iff_not]; omega
     have hmi2 : ¬ (m : Int) < (k : Int) := by omega
     have hfull := List.take_of_length_le (show t.parts.length ≤ m by have := HK.out; omega)
     have HFU := Lib.hid hfull
     clear hfull
     go_wp2_with fail
     go_ret
     refine ⟨q, rfl, hq1, fun h => ?_, by rw [HL.out]; exact HWR.out⟩
     have := HQ2.out h
     rw [HFU.out] at this
     rw [this, HSP.out]
end Go.Proofs.YtdncljdfmdgdaaaGreatDoor
namespace Go.Proofs.YtdncljdfmdgdaaaGreatDoor
open Go.ChangeShapes Go.WideShapes Go.ChangeAt Go.RowKit
set_option linter.unusedSimpArgs false
set_option linter.unusedVariables false
def Fit {H : Type} (P : Program) (t : TypeId) (d : DataW H) : Prop := ∀ n ∈ d.weights P t, n ≤ reachBytes
theorem Fit.each {H : Type} {P : Program} : ∀ {ts : List TypeId} {ds : List (DataW H)} {i : Nat} {t : TypeId} {d : DataW H}, (∀ n ∈ DataW.weightsEach P ts ds, n ≤ reachBytes) → ts[i]? = some t → ds[i]? = some d → Fit P t d
 | [], ds, i, t, d, h, h1, h2 => by simp at h1
 | t :: ts, [], i, u, d, h, h1, h2 => by simp at h2
 | t :: ts, d :: ds, 0, u, e, h, h1, h2 => by
  simp at h1 h2
  subst h1 h2
  rw [DataW.weightsEach] at h
  exact fun n hn => h n (List.mem_append_left _ hn)
 | t :: ts, d :: ds, i + 1, u, e, h, h1, h2 => by
  rw [DataW.weightsEach] at h
  exact Fit.each (fun n hn => h n (List.mem_append_right _ hn)) (by simpa using h1) (by simpa using h2)
theorem Fit.all {H : Type} {P : Program} {t : TypeId} : ∀ {ds : List (DataW H)} {i : Nat} {d : DataW H}, (∀ n ∈ DataW.weightsAll P t ds, n ≤ reachBytes) → ds[i]? = some d → Fit P t d
 | [], i, d, h, h2 => by simp at h2
 | d :: ds, 0, e, h, h2 => by
  simp at h2
  subst h2
  rw [DataW.weightsAll] at h
  exact fun n hn => h n (List.mem_append_left _ hn)
 | d :: ds, i + 1, e, h, h2 => by
  rw [DataW.weightsAll] at h
  exact Fit.all (fun n hn => h n (List.mem_append_right _ hn)) (by simpa using h2)
section
variable {H : Type} {enc : TypeId × Value → H} {P : Program} {W : World} {sp : Nat → Bool} {held : Bool}
theorem zbgZ {t ty : TypeId} {off : Nat} (i : Nat) {fuel : Nat} {cs : List Value} {x : DataW H × List MemPlace} (hu : P.underlying t = some (.struct (P.fieldsOf t))) (hi : (P.fieldsOf t)[i]?.map (fun f => (f.type, f.offset)) = some (ty, off))
  (h : DataW.trod enc P W 0 sp held fuel t cs = some x) (hf : Fit P t x.1) :
  ∃ n y, n < fuel ∧ DataW.trod enc P W 0 sp held n ty ((cs.drop off).take (P.cellsOf ty)) = some y ∧ Fit P ty y.1 := by
 obtain ⟨xs, n, rfl, rfl, hl, hlen, hfs⟩ := DataW.trod_struct hu h
 obtain ⟨f, hfi, he⟩ := Option.map_eq_some_iff.1 hi
 injection he with e1 e2
 have h1 := hfs i f hfi
 rw [e1, e2] at h1
 have hil : i < xs.length := by rw [hlen]; exact (Array.getElem?_eq_some_iff.1 hfi).1
 rw [List.getElem?_eq_getElem hil] at h1
 refine ⟨n, _, Nat.lt_succ_self n, h1, ?_⟩
 unfold Fit at hf
 simp only [DataW.weights, hu] at hf
 exact Fit.each (i := i) hf (by rw [List.getElem?_map, Array.getElem?_toList, hfi, ← e1]; rfl) (by rw [List.getElem?_map, List.getElem?_eq_getElem hil]; rfl)
theorem zhxZ {t : TypeId} {fuel : Nat} {cs : List Value} {x : DataW H × List MemPlace} (hu : P.underlying t = some (.struct (P.fieldsOf t))) (h : DataW.trod enc P W 0 sp held fuel t cs = some x) : cs.length = P.cellsOf t := by
 obtain ⟨xs, n, rfl, rfl, hl, hlen, hfs⟩ := DataW.trod_struct hu h
 exact hl
theorem zftZ {a : Addr} {n : Nat} {cs : List Value} (h : W.cells? 0 a n = some cs) : cs.length = n ∧ ∀ j, j < n → W.cell? (a.add j) = cs[j]? := by
 unfold World.cells? at h
 rw [if_pos (Nat.zero_le _)] at h
 refine ⟨by simpa using mapM_some_length h, fun j hj => mapM_some_get h j j (by simp [hj])⟩
theorem zeiZ {t e : TypeId} {c fuel : Nat} {v : Value} {x : DataW H × List MemPlace} (hu : P.underlying t = some (.slice e)) (hc : P.cellsOf e = c) (hc1 : 0 < c) (hb : 1 ≤ P.bytesOf e)
  (h : DataW.trod enc P W 0 sp held fuel t [v] = some x) (hf : Fit P t x.1) :
  ∃ a len cap, v = .slice a len cap ∧ len ≤ cap ∧ len ≤ reachBytes ∧ ∀ i, i < len → ∃ g off cs n y, a = some ⟨g, off, none⟩ ∧ n < fuel ∧ cs.length = c ∧ (∀ j, j < c → W.cell? ⟨g, off + i * c + j, none⟩ = cs[j]?) ∧
   DataW.trod enc P W 0 sp held n e cs = some y ∧ Fit P e y.1 := by
 rcases DataW.trod_slice hu h with ⟨hcs, _⟩ | ⟨a, len', cap', elems, rest, n, rfl, hcs, rfl, _, hlc, hcm, hlen, hel, _⟩
 ·injection hcs with hcs _
  exact ⟨none, 0, 0, hcs, Nat.le_refl _, Nat.zero_le _, fun i hi => by omega⟩
 ·injection hcs with hcs _
  subst hcs
  unfold Fit at hf
  simp only [DataW.weights, hu] at hf
  refine ⟨some a, len', cap', rfl, hlc, ?_, fun i hi => ?_⟩
  ·have := hf _ (List.mem_cons_self)
   simp only [List.length_map] at this
   have h2 := Nat.le_mul_of_pos_right (elems.length + rest.length) hb
   omega
  ·have he := hel i hi
   rw [List.getElem?_eq_getElem (by omega)] at he
   obtain ⟨cs, hcc, ht⟩ := Option.bind_eq_some_iff.1 he
   rw [hc] at hcc
   obtain ⟨hl, hg⟩ := zftZ hcc
   have he0 := hel 0 (by omega)
   rw [List.getElem?_eq_getElem (show 0 < elems.length by omega)] at he0
   obtain ⟨cs0, hcc0, -⟩ := Option.bind_eq_some_iff.1 he0
   rw [hc] at hcc0
   obtain ⟨hl0, hg0⟩ := zftZ hcc0
   obtain ⟨b, off, spot⟩ := a
   have h0 := hg0 0 hc1
   rw [List.getElem?_eq_getElem (show 0 < cs0.length by omega)] at h0
   have hspot : spot = none := by simpa [Addr.add] using World.cell?_spot h0
   subst hspot
   refine ⟨b, off, cs, n, _, rfl, Nat.lt_succ_self n, hl, fun j hj => ?_, ht, ?_⟩
   ·have := hg j hj
    rw [zbjZ, zbjZ] at this
    exact this
   ·exact Fit.all (i := i) (fun m hm => hf m (List.mem_cons_of_mem _ (List.mem_append_left _ hm))) (by rw [List.getElem?_map, List.getElem?_eq_getElem (by omega)]; rfl)
theorem zgxZ {t : TypeId} {fuel : Nat} {v : Value} {x : DataW H × List MemPlace} (hu : P.underlying t = some .string) (h : DataW.trod enc P W 0 sp held fuel t [v] = some x) (hf : Fit P t x.1) :
  ∃ s : Lx.Bytes, v = .string ⟨s.toArray⟩ ∧ s.length ≤ reachBytes := by
 obtain ⟨s, e, hx, _⟩ := DataW.trod_string hu h
 subst hx
 injection e with e
 refine ⟨s.data.toList, by rw [mk_back]; exact e, ?_⟩
 have := hf s.data.toList.length (by simp [DataW.weights])
 exact this
end
theorem zjgZ {l : List Value} (h : l.length = 5) : ∃ a b c d e, l = [a, b, c, d, e] := by
 match l, h with
 | [a, b, c, d, e], _ => exact ⟨a, b, c, d, e, rfl⟩
theorem zgyZ {l : List Value} (h : l.length = 1) : ∃ a, l = [a] := by
 match l, h with
 | [a], _ => exact ⟨a, rfl⟩
theorem uTy : Tryz.prog.underlying 26 = some (.struct (Tryz.prog.fieldsOf 26)) := by kernel_rfl
theorem cTy : Tryz.prog.cellsOf 26 = 5 := by kernel_rfl
theorem bTy : 1 ≤ Tryz.prog.bytesOf 26 := of_decide_eq_true (by kernel_rfl)
theorem bStr : 1 ≤ Tryz.prog.bytesOf 9 := of_decide_eq_true (by kernel_rfl)
theorem bBool : 1 ≤ Tryz.prog.bytesOf 4 := of_decide_eq_true (by kernel_rfl)
theorem cBool : Tryz.prog.cellsOf 4 = 1 := by kernel_rfl
theorem cSls : Tryz.prog.cellsOf 22 = 1 := by kernel_rfl
theorem cSlb : Tryz.prog.cellsOf 23 = 1 := by kernel_rfl
theorem cSlt : Tryz.prog.cellsOf 24 = 1 := by kernel_rfl
theorem uSls : Tryz.prog.underlying 22 = some (.slice 9) := by kernel_rfl
theorem uSlb : Tryz.prog.underlying 23 = some (.slice 4) := by kernel_rfl
theorem uSlt : Tryz.prog.underlying 24 = some (.slice 26) := by kernel_rfl
theorem uBool : Tryz.prog.underlying 4 = some .bool := by kernel_rfl
theorem fTy0 : (Tryz.prog.fieldsOf 26)[0]?.map (fun f => (f.type, f.offset)) = some (3, 0) := by kernel_rfl
theorem fTy1 : (Tryz.prog.fieldsOf 26)[1]?.map (fun f => (f.type, f.offset)) = some (9, 1) := by kernel_rfl
theorem fTy2 : (Tryz.prog.fieldsOf 26)[2]?.map (fun f => (f.type, f.offset)) = some (22, 2) := by kernel_rfl
theorem fTy3 : (Tryz.prog.fieldsOf 26)[3]?.map (fun f => (f.type, f.offset)) = some (23, 3) := by kernel_rfl
theorem fTy4 : (Tryz.prog.fieldsOf 26)[4]?.map (fun f => (f.type, f.offset)) = some (24, 4) := by kernel_rfl
section
variable {H : Type} {enc : TypeId × Value → H} {W : World} {sp : Nat → Bool} {held : Bool}
theorem zgzZ {fuel : Nat} {v : Value} {x : DataW H × List MemPlace} (h : DataW.trod enc Tryz.prog W 0 sp held fuel 22 [v] = some x) (hf : Fit Tryz.prog 22 x.1) :
  ∃ ns, StrRow W v ns ∧ ns.length ≤ reachBytes ∧ ∀ s ∈ ns, s.length ≤ reachBytes := by
 obtain ⟨a, len, cap, rfl, hlc, hlr, hi⟩ := zeiZ uSls cS Nat.one_pos bStr h hf
 have key : ∀ i, i < len → ∃ s : Lx.Bytes, (∃ g off, a = some ⟨g, off, none⟩ ∧ W.cell? ⟨g, off + i, none⟩ = some (.string ⟨s.toArray⟩)) ∧ s.length ≤ reachBytes := by
  intro i hil
  obtain ⟨g, off, cs, n, y, rfl, _, hl, hc, ht, hfy⟩ := hi i hil
  obtain ⟨u, rfl⟩ := zgyZ hl
  obtain ⟨s, rfl, hs⟩ := zgxZ Tryz.underlying9 ht hfy
  exact ⟨s, ⟨g, off, rfl, by simpa using hc 0 Nat.one_pos⟩, hs⟩
 obtain ⟨ns, hl, hp⟩ := zbnZ len key
 refine ⟨ns, ⟨a, cap, by rw [hl], fun i h => (hp i h).1⟩, by omega, fun s hs => ?_⟩
 obtain ⟨i, hi, rfl⟩ := List.getElem_of_mem hs
 exact (hp i hi).2
theorem zgdZ {fuel : Nat} {v : Value} {x : DataW H × List MemPlace} (h : DataW.trod enc Tryz.prog W 0 sp held fuel 23 [v] = some x) (hf : Fit Tryz.prog 23 x.1) :
  ∃ es, BoolRow W v es ∧ es.length ≤ reachBytes := by
 obtain ⟨a, len, cap, rfl, hlc, hlr, hi⟩ := zeiZ uSlb cBool Nat.one_pos bBool h hf
 have key : ∀ i, i < len → ∃ s : Bool, (∃ g off, a = some ⟨g, off, none⟩ ∧ W.cell? ⟨g, off + i, none⟩ = some (.bool s)) := by
  intro i hil
  obtain ⟨g, off, cs, n, y, rfl, _, hl, hc, ht, hfy⟩ := hi i hil
  obtain ⟨u, rfl⟩ := zgyZ hl
  obtain ⟨s, e, _⟩ := DataW.trod_bool uBool ht
  injection e with e
  subst e
  exact ⟨s, g, off, rfl, by simpa using hc 0 Nat.one_pos⟩
 obtain ⟨ns, hl, hp⟩ := zbnZ len key
 exact ⟨ns, ⟨a, cap, by rw [hl], fun i h => hp i h⟩, by omega⟩
def TyRead (W : World) (cs : List Value) : Prop := ∃ v0 v1 v2 v3 v4 t, cs = [v0, v1, v2, v3, v4] ∧ IsTy W (.agg #[v0, v1, v2, v3, v4]) t ∧ Sx.fits t
theorem zhaZ : ∀ {l : List Sx.Ty}, (∀ t ∈ l, Sx.fits t) → Sx.fitsL l
 | [], h => by rw [Sx.fitsL]; trivial
 | t :: l, h => by
  rw [Sx.fitsL]
  exact ⟨h t List.mem_cons_self, zhaZ fun u hu => h u (List.mem_cons_of_mem _ hu)⟩
theorem zhyZ {fuel : Nat} (ih : ∀ n, n < fuel → ∀ cs x, DataW.trod enc Tryz.prog W 0 sp held n 26 cs = some x → Fit Tryz.prog 26 x.1 → TyRead W cs)
  {v : Value} {x : DataW H × List MemPlace} (h : DataW.trod enc Tryz.prog W 0 sp held fuel 24 [v] = some x) (hf : Fit Tryz.prog 24 x.1) :
  ∃ l, TyRow W v l ∧ l.length ≤ reachBytes ∧ Sx.fitsL l := by
 obtain ⟨a, len, cap, rfl, hlc, hlr, hi⟩ := zeiZ uSlt cTy (by decide) bTy h hf
 have key : ∀ i, i < len → ∃ t : Sx.Ty, (∃ g off v0 v1 v2 v3 v4, a = some ⟨g, off, none⟩ ∧ W.cell? ⟨g, off + (0 + i) * 5, none⟩ = some v0 ∧ W.cell? ⟨g, off + (0 + i) * 5 + 1, none⟩ = some v1 ∧
   W.cell? ⟨g, off + (0 + i) * 5 + 2, none⟩ = some v2 ∧ W.cell? ⟨g, off + (0 + i) * 5 + 3, none⟩ = some v3 ∧ W.cell? ⟨g, off + (0 + i) * 5 + 4, none⟩ = some v4 ∧ IsTy W (.agg #[v0, v1, v2, v3, v4]) t) ∧ Sx.fits t := by
  intro i hil
  obtain ⟨g, off, cs, n, y, rfl, hn, hl, hc, ht, hfy⟩ := hi i hil
  obtain ⟨v0, v1, v2, v3, v4, t, rfl, hty, hfit⟩ := ih n hn cs y ht hfy
  rw [Nat.zero_add]
  exact ⟨t, ⟨g, off, v0, v1, v2, v3, v4, rfl, hc 0 (by decide), hc 1 (by decide), hc 2 (by decide), hc 3 (by decide), hc 4 (by decide), hty⟩, hfit⟩
 obtain ⟨l, hl, hp⟩ := zbnZ len key
 refine ⟨l, ⟨a, cap, by rw [hl], by omega, IsTys.mk fun m h => (hp m h).1⟩, by omega, zhaZ fun t ht => ?_⟩
 obtain ⟨i, hi, rfl⟩ := List.getElem_of_mem ht
 exact (hp i hi).2
set_option maxRecDepth 100000 in
theorem zipZ : ∀ (fuel : Nat) (cs : List Value) (x : DataW H × List MemPlace), DataW.trod enc Tryz.prog W 0 sp held fuel 26 cs = some x → Fit Tryz.prog 26 x.1 → TyRead W cs := by
 intro fuel
 induction fuel using Nat.strongRecOn with
 | _ fuel ih =>
  intro cs x h hf
  obtain ⟨v0, v1, v2, v3, v4, rfl⟩ := zjgZ ((zhxZ uTy h).trans cTy)
  obtain ⟨n0, y0, l0, h0, q0⟩ := zbgZ 0 uTy fTy0 h hf
  obtain ⟨n1, y1, l1, h1, q1⟩ := zbgZ 1 uTy fTy1 h hf
  obtain ⟨n2, y2, l2, h2, q2⟩ := zbgZ 2 uTy fTy2 h hf
  obtain ⟨n3, y3, l3, h3, q3⟩ := zbgZ 3 uTy fTy3 h hf
  obtain ⟨n4, y4, l4, h4, q4⟩ := zbgZ 4 uTy fTy4 h hf
  rw [cI] at h0
  rw [cS] at h1
  rw [cSls] at h2
  rw [cSlb] at h3
  rw [cSlt] at h4
  simp only [List.drop_zero, List.drop_succ_cons, List.take_succ_cons, List.take_zero] at h0 h1 h2 h3 h4
  obtain ⟨k, e0, _, _⟩ := DataW.trod_int Tryz.underlying3 h0
  injection e0 with e0
  subst e0
  obtain ⟨nm, rfl, z1⟩ := zgxZ Tryz.underlying9 h1 q1
  obtain ⟨ns, r2, z2, z2'⟩ := zgzZ h2 q2
  obtain ⟨es, r3, z3⟩ := zgdZ h3 q3
  obtain ⟨ps, ⟨A, c, rfl, hc, r4⟩, z4, z4'⟩ := zhyZ (fun n hn => ih n (by omega)) h4 q4
  refine ⟨_, _, _, _, _, .mk k nm ns es ps, rfl, ?_, ?_⟩
  ·rw [IsTy]
   exact ⟨_, _, A, c, rfl, r2, r3, hc, r4⟩
  ·rw [Sx.fits]
   exact ⟨z1, z2, z3, z4, z2', z4'⟩
def TyArg (W : World) (v : Value) (t : Sx.Ty) : Prop := IsTy W v t ∧ Sx.fits t
set_option maxRecDepth 100000 in
theorem open_ty {base : Nat} {v : Value} {d : DataW H} {p : List MemPlace} (hval : Value.okWide Tryz.prog W .any base 26 v) (hd : DataW.Trod enc Tryz.prog W 0 sp held 26 v d p) (hf : Fit Tryz.prog 26 d) :
  ∃ t, TyArg W v t := by
 obtain ⟨cs, rfl, hsz⟩ := okWide_struct uTy hval
 obtain ⟨fuel, h⟩ := hd
 obtain ⟨v0, v1, v2, v3, v4, t, he, ht, hfit⟩ := zipZ fuel _ _ h hf
 refine ⟨t, ?_, hfit⟩
 have : cs = #[v0, v1, v2, v3, v4] := by
  apply Array.toList_inj.1
  exact he
 rw [this]
 exact ht
end
end Go.Proofs.YtdncljdfmdgdaaaGreatDoor
namespace Go.Proofs.YtdncljdfmdgdaaaGreatDoor
open Go.RowKit Go.Shelf
set_option linter.unusedSimpArgs false
set_option linter.unusedVariables false
end Go.Proofs.YtdncljdfmdgdaaaGreatDoor
namespace Go.Proofs.YtdncljdfmdgdaaaGreatDoor
open Go.RowKit Go.WideMaps
set_option linter.unusedSimpArgs false
set_option linter.unusedVariables false
theorem OwnS.row {w : World} {B : Nat} {v : Value} {l : List Lx.Bytes} (h : OwnS w B v l) : StrRow w v l := by
 obtain ⟨A, c, hv⟩ := h.slice
 refine ⟨A, c, hv, fun i hi => ?_⟩
 rcases h.2 with ⟨h1, h0⟩ | ⟨g, cap, cur, h1, _, h2, _, _, _, h3⟩
 ·omega
 ·rw [hv] at h1
  injection h1 with h1 _ _
  refine ⟨g, 0, h1, ?_⟩
  rw [cell_of h2, Nat.zero_add, ← Array.getElem?_toList, ← List.getElem?_take_of_lt (l := cur.toList) (j := l.length * 1) (by omega), h3]
  simp [strsV, hi]
set_option maxRecDepth 100000 in
set_option maxHeartbeats 8000000 in
theorem zlyZ (l : List Sx.Ty) (v : Value) (W : World) (hn : Sx.sizeL l ≤ 1000000) (hv : TyRow W v l) :
  Calls Tryz.prog 17 #[v] W fun e W' => ∃ A, e = .returned (.slice A (Sx.once [] (Sx.allNamesL l)).length (Sx.once [] (Sx.allNamesL l)).length) ∧ StrRow W' (.slice A (Sx.once [] (Sx.allNamesL l)).length (Sx.once [] (Sx.allNamesL l)).length) (Sx.once [] (Sx.allNamesL l)) ∧ Below W.heap.size W W' := by
 have hmm := @run_makeMap Tryz.prog
 obtain ⟨A, c, rfl, hcap, hl⟩ := hv
 have hv : TyRow W (.slice A l.length c) l := ⟨A, c, rfl, hcap, hl⟩
 have HV := Lib.hid hv
 clear hv hl
 obtain ⟨L, hL⟩ : ∃ L, W.heap.size = L := ⟨_, rfl⟩
 have hmet : ∀ X, (((W.alloc (.cells #[.slice none 0 0] 22)).alloc (.map #[] 0)).alloc (.cells #[.map (some (W.heap.size + 1))] 107)) = X → Met W.heap.size W.heap.size (W.heap.size + 1 + 1) (W.heap.size + 1) [] X ∧ Below W.heap.size W X := by
  rintro X rfl
  refine ⟨⟨Nat.le_refl _, by omega, by omega, ⟨.slice none 0 0, ((Boxed.new W _ _).alloc _).alloc _, World.ownsRow_nil _ _ _ _⟩, ?_, 0, .map [], Nat.le_refl _, ?_, Maps.isMap_empty, fun s => rfl⟩, ?_⟩
  ·have := Boxed.new ((W.alloc (.cells #[.slice none 0 0] 22)).alloc (.map #[] 0)) 107 (.map (some (W.heap.size + 1)))
   simpa using this
  ·have := (World.ownsMap_made (W.alloc (.cells #[.slice none 0 0] 22)) Tryz.prog 9 (plainElem (H := Unit) Tryz.prog 3)).alloc (.cells #[.map (some (W.heap.size + 1))] 107)
   simpa using this
  ·exact (((Below.refl _ W).alloc (Nat.le_refl _) _).alloc (by simp) _).alloc (by simp; omega) _
 have HMET := Lib.hid hmet
 clear hmet
 go_enter Tryz.func17, Tryz.ntmps17
 obtain ⟨X, hX⟩ : ∃ X, (((W.alloc (.cells #[.slice none 0 0] 22)).alloc (.map #[] 0)).alloc (.cells #[.map (some (L + 1))] 107)) = X := ⟨_, rfl⟩
 have hh := HMET.out X (by rw [← hX, hL])
 have hcall := zioZ W W.heap.size (W.heap.size + 1 + 1) (W.heap.size + 1) (Sx.sizeL l) l _ [] X (Nat.le_refl _) (by simpa using hn) HV.out hh.2 hh.1
 rw [hL] at hcall
 have HC := Lib.hid hcall
 clear hcall hh
 go_wp2_with fail
 refine HC.out.mono ?_
 rintro e W3 ⟨rfl, ⟨-, -, -, ⟨u, hbl, ho⟩, -, -⟩, hb3, -⟩
 have cL := hbl.cell
 have hl3 := hbl.lt
 rw [List.nil_append] at ho
 obtain ⟨A', c', rfl⟩ := ho.slice
 have HO := Lib.hid ho
 have HB3 := Lib.hid hb3
 obtain ⟨r, hr⟩ : ∃ r, Sx.once [] (Sx.allNamesL l) = r := ⟨_, rfl⟩
 have HR := Lib.hid hr
 have hrl : r.length ≤ 1000000 := by
  have := Sx.once_len (Sx.allNamesL l) []
  have := Sx.namesL_size l
  rw [← hr]
  simp at *
  omega
 have hrc : r.length ≤ c' := by
  rcases ho.2 with ⟨h1, h0⟩ | ⟨g, cap, cur, h1, _, _, h2, _⟩
  ·rw [hr] at h0; omega
  ·rw [hr] at h1 h2; injection h1 with _ _ h1; omega
 have hri : (r.length : Int) ≤ (c' : Int) := by omega
 have hr0 : (0 : Int) ≤ (r.length : Int) := by omega
 rw [hr] at cL
 clear ho hbl hb3 hr
 go_wp2_with fail
 go_ret
 rw [HR.out]
 refine ⟨A', rfl, ?_, by rw [hL]; exact HB3.out⟩
 obtain ⟨A1, c1, h1, h2⟩ := HO.out.row
 rw [HR.out] at h1 h2
 injection h1 with h1 _ _
 subst h1
 exact ⟨A', r.length, rfl, h2⟩
end Go.Proofs.YtdncljdfmdgdaaaGreatDoor
