/-
  The walk of typ at records and interfaces.
  The walks of is, name, great, bytes, unlike.
  The walk of typ at whatever right type.
-/
import Derived.Test.YtdncljdfmdgdaaaGreatDoorM9
import Derived.Test.YtdncljdfmdgdaaaGreatDoorM6
import Derived.Test.YtdncljdfmdgdaaaGreatDoorM8
namespace Go.Proofs.YtdncljdfmdgdaaaGreatDoor
open Go.RowKit Go.Shelf Go.WideMaps
set_option linter.unusedSimpArgs false
set_option linter.unusedVariables false

theorem StrRow.spot {W0 : World} {A : Option Addr} {k c : Nat} {l : List Lx.Bytes} (h : StrRow W0 (.slice A k c) l) (m : Nat) (hm : m < l.length) :
    ∃ g off, A = some ⟨g, off, none⟩ ∧ ∀ W, Below W0.heap.size W0 W → g < W.heap.size ∧ W.cell? ⟨g, off + m, none⟩ = some (.string ⟨(l[m]'hm).toArray⟩) := by
  obtain ⟨A', c', hv, hl⟩ := h
  injection hv with h1 _ _
  subst h1
  obtain ⟨g, off, rfl, hc⟩ := hl m hm
  have hg := World.block_lt_of_cell? W0 ⟨g, _, none⟩ hc
  exact ⟨g, off, rfl, fun W hb => ⟨Nat.lt_of_lt_of_le hg hb.size, (World.cell?_of_block (hb.block g hg)).trans hc⟩⟩
theorem BoolRow.spot {W0 : World} {A : Option Addr} {k c : Nat} {l : List Bool} (h : BoolRow W0 (.slice A k c) l) (m : Nat) (hm : m < l.length) :
    ∃ g off, A = some ⟨g, off, none⟩ ∧ ∀ W, Below W0.heap.size W0 W → g < W.heap.size ∧ W.cell? ⟨g, off + m, none⟩ = some (.bool (l[m]'hm)) := by
  obtain ⟨A', c', hv, hl⟩ := h
  injection hv with h1 _ _
  subst h1
  obtain ⟨g, off, rfl, hc⟩ := hl m hm
  have hg := World.block_lt_of_cell? W0 ⟨g, _, none⟩ hc
  exact ⟨g, off, rfl, fun W hb => ⟨Nat.lt_of_lt_of_le hg hb.size, (World.cell?_of_block (hb.block g hg)).trans hc⟩⟩
theorem Sx.fields_append : ∀ (ns : List Lx.Bytes) (es : List Bool) (ps : List Sx.Ty) (n : Lx.Bytes) (e : Bool) (p : Sx.Ty), ns.length = ps.length → es.length = ps.length →
    Sx.fields (ns ++ [n]) (es ++ [e]) (ps ++ [p]) = Sx.fields ns es ps ++ ((if e then [[101, 109, 98, 101, 100]] else []) ++ ([n] ++ Sx.typ p ++ [[59]]))
  | [], [], [], n, e, p, _, _ => by simp [Sx.fields]
  | a :: ns, b :: es, t :: ps, n, e, p, h1, h2 => by
    rw [List.cons_append, List.cons_append, List.cons_append, Sx.fields, Sx.fields, Sx.fields_append ns es ps n e p (by simpa using h1) (by simpa using h2)]
    simp [List.append_assoc]
  | [], _, _ :: _, _, _, _, h1, _ => by simp at h1
  | _ :: _, _, [], _, _, _, h1, _ => by simp at h1
  | _, [], _ :: _, _, _, _, _, h2 => by simp at h2
  | _, _ :: _, [], _, _, _, _, h2 => by simp at h2
theorem Sx.fields_take {ns : List Lx.Bytes} {es : List Bool} {ps : List Sx.Ty} {m : Nat} (h1 : ns.length = ps.length) (h2 : es.length = ps.length) (hm : m < ps.length) :
    Sx.fields (ns.take (m + 1)) (es.take (m + 1)) (ps.take (m + 1)) = Sx.fields (ns.take m) (es.take m) (ps.take m) ++ ((if es[m]'(by omega) then [[101, 109, 98, 101, 100]] else []) ++ ([ns[m]'(by omega)] ++ Sx.typ ps[m] ++ [[59]])) := by
  rw [List.take_succ_eq_append_getElem hm, List.take_succ_eq_append_getElem (show m < ns.length by omega), List.take_succ_eq_append_getElem (show m < es.length by omega)]
  exact Sx.fields_append _ _ _ _ _ _ (by simp; omega) (by simp; omega)
theorem Sx.methods_append : ∀ (ns : List Lx.Bytes) (ps : List Sx.Ty) (n : Lx.Bytes) (p : Sx.Ty), ns.length = ps.length →
    Sx.methods (ns ++ [n]) (ps ++ [p]) = Sx.methods ns ps ++ ([n] ++ Sx.signature p ++ [[59]])
  | [], [], n, p, _ => by simp [Sx.methods]
  | a :: ns, t :: ps, n, p, h1 => by
    rw [List.cons_append, List.cons_append, Sx.methods, Sx.methods, Sx.methods_append ns ps n p (by simpa using h1)]
    simp [List.append_assoc]
  | [], _ :: _, _, _, h1 => by simp at h1
  | _ :: _, [], _, _, h1 => by simp at h1
theorem Sx.methods_take {ns : List Lx.Bytes} {ps : List Sx.Ty} {m : Nat} (h1 : ns.length = ps.length) (hm : m < ps.length) :
    Sx.methods (ns.take (m + 1)) (ps.take (m + 1)) = Sx.methods (ns.take m) (ps.take m) ++ ([ns[m]'(by omega)] ++ Sx.signature ps[m] ++ [[59]]) := by
  rw [List.take_succ_eq_append_getElem hm, List.take_succ_eq_append_getElem (show m < ns.length by omega)]
  exact Sx.methods_append _ _ _ _ (by simp; omega)
theorem Sx.le_sum : ∀ {l : List Lx.Bytes} {s : Lx.Bytes}, s ∈ l → s.length ≤ (l.map List.length).sum
  | x :: l, s, h => by
    rw [List.map_cons, List.sum_cons]
    rcases List.mem_cons.1 h with rfl | h
    · omega
    · have := Sx.le_sum h; omega
theorem Sx.name_len {t : Sx.Ty} {s : Lx.Bytes} (h : s ∈ t.names) : s.length ≤ Sx.size t := by
  have h1 := Sx.size_parts t
  have h2 := Sx.le_sum h
  omega

set_option maxRecDepth 100000 in
set_option maxHeartbeats 8000000 in
theorem synTyp6 (N : Sx.Names) (hN : Sx.NamesOk N) (W0 : World) (b : Nat) (t : Sx.Ty) (ih : ∀ p ∈ t.parts, TypOk N W0 b p) (hkd : t.kind = 6) : TypOk N W0 b t := by
  intro d v c l w hr ht h hc
  obtain ⟨An, cn, Ae, ce, Ap, cp, rfl, hnm, hem, hp⟩ := ht.agg
  obtain ⟨d', rfl, hr', hsh⟩ := Sx.right_parts hr
  rw [hkd] at hsh ht ⊢
  have hsz := Sx.size_parts t
  have hs1 : c + 10 ≤ 1000000000 := by omega
  have hns : t.names.length = t.parts.length := by simp [Sx.shape] at hsh; omega
  have hes : t.embeds.length = t.parts.length := by simp [Sx.shape] at hsh; omega
  have HAP := Lib.hid (show ∀ s ∈ t.names, N.small s = true from Sx.apart_small (by simp [Sx.shape] at hsh; exact hsh.2))
  have HT := Lib.hid (show Sx.typ t = [[123]] ++ Sx.fields t.names t.embeds t.parts ++ [[125]] by rw [Sx.typ_eq, hkd]; simp)
  have HEM := Lib.hid hem
  have HES := Lib.hid hes
  have HNM := Lib.hid hnm
  have HNS := Lib.hid hns
  have HIH := Lib.hid ih
  have hlen := Sx.length_size t.parts
  obtain ⟨k, hk⟩ : ∃ k, t.parts.length = k := ⟨_, rfl⟩
  have hki : (k : Int) ≤ 1000000000 := by omega
  rw [hk] at hp ht ⊢
  have HK := Lib.hid hk
  have HR := Lib.hid hr'
  have HSZ := Lib.hid hsz
  have HTY := Lib.hid ht
  have HP := Lib.hid hp
  obtain ⟨L, hL⟩ : ∃ L, w.heap.size = L := ⟨_, rfl⟩
  obtain ⟨w2, hw2⟩ : ∃ w2, w.alloc (.cells #[.int .i64 6, .string ⟨t.name.toArray⟩, .slice An t.names.length cn, .slice Ae t.embeds.length ce, .slice Ap k cp] 26) = w2 := ⟨_, rfl⟩
  have hbox : w2.heap[L]? = some (.cells #[.int .i64 6, .string ⟨t.name.toArray⟩, .slice An t.names.length cn, .slice Ae t.embeds.length ce, .slice Ap k cp] 26 (0, 0)) := by rw [← hw2, ← hL]; exact heap_alloc_new w _
  have hW2 : Wrote W0 b c l w2 := by rw [← hw2]; exact h.grown (World.grownBy_alloc w _ none)
  have HKW := Lib.hid (show KeepW w w2 by rw [← hw2]; exact KeepW.alloc w _)
  have HBX := Lib.hid hbox
  have HW2 := Lib.hid hW2
  obtain ⟨x0, x1, x2, x3, x4⟩ := five_cells hbox
  have hl2 := lt_of_block hbox
  have hbl := hW2.lt
  clear ih hns hes hk hr hr' ht hp hnm hem hsz hW2 hbox h hsh hkd
  go_enter Tryz.func59, Tryz.ntmps59
  go_wp2_with (go_at_call 100; refine (put1 (s := [123]) HW2.out ⟨by simp, by simp⟩ (by omega)).mono ?_; rintro e w3 ⟨rfl, hW3, hk3⟩; have hbox3 := hk3 _ _ _ _ HBX.out (by decide) (by decide); clear x0 x1 x2 x3 x4; obtain ⟨x0, x1, x2, x3, x4⟩ := five_cells hbox3; have hl3 := lt_of_block hbox3; have HW3 := Lib.hid hW3; have HK3 := Lib.hid (HKW.out.trans hk3); have HBX3 := Lib.hid hbox3; clear hbox3 hW3 hk3)
  have H3 := Lib.hid (show Wrote W0 b (c + 1 + 10 * Sx.sizeL (t.parts.take 0)) (l ++ [[123]] ++ Sx.fields (t.names.take 0) (t.embeds.take 0) (t.parts.take 0)) w3 from (HW3.out.mono (by omega)).cast (by simp [Sx.fields, Sx.methods]))
  clear x0 x1 x2 x3 x4
  go_loopg [63] k (fun i v wr => ∃ (m : Nat), i = k - m ∧ v = .int .i64 (m : Int) ∧ m ≤ k ∧ Wrote W0 b (c + 1 + 10 * Sx.sizeL (t.parts.take m)) (l ++ [[123]] ++ Sx.fields (t.names.take m) (t.embeds.take m) (t.parts.take m)) wr ∧ KeepW w3 wr)
  case atStart => exact ⟨0, rfl, rfl, Nat.zero_le _, H3.out, KeepW.refl _⟩
  case round =>
    obtain ⟨m, hi, rfl, hm, hW, hkw⟩ := hrel
    have HI := Lib.hid hi
    have HWR := Lib.hid hW
    have m0 : (0 : Int) ≤ (m : Int) := by omega
    have hboxr := hkw _ _ _ _ HBX3.out (by decide) (by decide)
    have HBR := Lib.hid hboxr
    have HKR := Lib.hid hkw
    have hblr := hW.lt
    have hlr := lt_of_block hboxr
    have hSL := Sx.sizeL_take_le t.parts (m + 1)
    have hSL0 := Sx.sizeL_take_le t.parts m
    have hSZ : 1 + Sx.sizeL t.parts ≤ Sx.size t := by have := HSZ.out; omega
    clear hi hW hkw H3 HW3 HBX3
    by_cases hlt : m < k
    · have hmi : (m : Int) < (k : Int) := by omega
      have hmp : m < t.parts.length := by have := HK.out; omega
      have hmn : m < t.names.length := by have := HNS.out; omega
      have hmni : (m : Int) < (t.names.length : Int) := by omega
      have hme : m < t.embeds.length := by have := HES.out; omega
      have hmei : (m : Int) < (t.embeds.length : Int) := by omega
      obtain ⟨g, off, An1, cn1, Ae1, ce1, Aq, cq, rfl, hty, hc5⟩ := HP.out.spot m hmp
      obtain ⟨g1, off1, rfl, hsp1⟩ := HNM.out.spot m hmn
      obtain ⟨g2, off2, rfl, hsp2⟩ := HEM.out.spot m hme
      have hst := Sx.size_take hmp
      have hpt := Sx.fields_take HNS.out HES.out hmp
      obtain ⟨p, hpe⟩ : ∃ p, t.parts[m]'hmp = p := ⟨_, rfl⟩
      obtain ⟨s, hse⟩ : ∃ s, t.names[m]'hmn = s := ⟨_, rfl⟩
      have hmem : p ∈ t.parts := by rw [← hpe]; exact List.getElem_mem hmp
      have hsm1 : s ∈ t.names := by rw [← hse]; exact List.getElem_mem hmn
      have hnl : s.length ≤ 1000000000 := by have := Sx.name_len hsm1; omega
      have HNE := Lib.hid (hN.small _ (HAP.out s hsm1))
      rw [hpe] at hc5 hty hst hpt
      rw [hse] at hsp1 hpt
      obtain ⟨hg, c0, c1, c2, c3, c4⟩ := hc5 wr HWR.out.below
      have hps := Sx.size_pos p
      have HTY2 := Lib.hid hty
      have HMEM := Lib.hid hmem
      have HS1 := Lib.hid hsp1
      obtain ⟨e, hee⟩ : ∃ e, t.embeds[m]'hme = e := ⟨_, rfl⟩
      rw [hee] at hsp2 hpt
      have HS2 := Lib.hid hsp2
      have HPT := Lib.hid hpt
      obtain ⟨sp, hsp⟩ : ∃ sp, Sx.size p = sp := ⟨_, rfl⟩
      obtain ⟨sm, hsm⟩ : ∃ sm, Sx.sizeL (t.parts.take m) = sm := ⟨_, rfl⟩
      rw [hsp, hsm] at hst
      rw [hst] at hSL
      rw [hsp] at hps
      have HSP := Lib.hid hsp
      have HST := Lib.hid hst
      have HSM := Lib.hid hsm
      have hbud : c + 10 + 10 * (sm + sp) ≤ 1000000000 := by omega
      obtain ⟨L4, hL4⟩ : ∃ L, wr.heap.size = L := ⟨_, rfl⟩
      obtain ⟨w4, hw4⟩ : ∃ w4, wr.alloc (.cells #[.int .i64 p.kind, .string ⟨p.name.toArray⟩, .slice An1 p.names.length cn1, .slice Ae1 p.embeds.length ce1, .slice Aq p.parts.length cq] 26) = w4 := ⟨_, rfl⟩
      have hbox4 : w4.heap[L4]? = some (.cells #[.int .i64 p.kind, .string ⟨p.name.toArray⟩, .slice An1 p.names.length cn1, .slice Ae1 p.embeds.length ce1, .slice Aq p.parts.length cq] 26 (0, 0)) := by rw [← hw4, ← hL4]; exact heap_alloc_new wr _
      have HBX4 := Lib.hid hbox4
      have HW4 := Lib.hid (show Wrote W0 b (c + 1 + 10 * sm) (l ++ [[123]] ++ Sx.fields (t.names.take m) (t.embeds.take m) (t.parts.take m)) w4 by rw [← hw4, ← HSM.out]; exact HWR.out.grown (World.grownBy_alloc wr _ none))
      have HK4 := Lib.hid (show KeepW wr w4 by rw [← hw4]; exact KeepW.alloc wr _)
      have HBL4 := Lib.hid (HK4.out _ _ _ _ HBR.out (by decide) (by decide))
      have hl4 : L4 < w4.heap.size := lt_of_block hbox4
      have hll4 : L < w4.heap.size := lt_of_block HBL4.out
      have hbl4 : b < w4.heap.size := HW4.out.lt
      clear hty hpt hmem hpe hsp hsm hst hbox4 hse hsm1 hc5 hsp1 hsp2 hee
      obtain ⟨x0, x1, x2, x3, x4⟩ := five_cells HBL4.out
      obtain ⟨z0, z1⟩ := HS2.out w4 HW4.out.below
      cases e with
      | true =>
        go_wp2_with (go_at_call 100; refine (put1 (s := [101, 109, 98, 101, 100]) HW4.out ⟨by simp, by simp⟩ (by omega)).mono ?_; rintro e w5 ⟨rfl, hW5, hk5⟩; have HBL5 := Lib.hid (hk5 _ _ _ _ HBL4.out (by decide) (by decide)); have HBX5 := Lib.hid (hk5 _ _ _ _ HBX4.out (by decide) (by decide)); clear x0 x1 x2 x3 x4 z0 z1; have HW5 := Lib.hid hW5; have HK5 := Lib.hid hk5; have hl5 := lt_of_block HBX5.out; have hll5 := lt_of_block HBL5.out; have hbl5 := hW5.lt; clear hW5 hk5)
        obtain ⟨x0, x1, x2, x3, x4⟩ := five_cells HBL5.out
        obtain ⟨y0, y1, y2, y3, y4⟩ := five_cells HBX5.out
        obtain ⟨q0, q1⟩ := HS1.out w5 HW5.out.below
        have HWD := Lib.hid HW5.out.drew
        go_region_with (go_at_call 100; refine (put1 (s := s) HWD.out ⟨HNE.out, hnl⟩ (by omega)).mono ?_; rintro e w6 ⟨rfl, hW6, hk6⟩)
        all_goals
          have hbox6 := hk6 _ _ _ _ HBX5.out (by decide) (by decide)
          clear x0 x1 x2 x3 x4 y0 y1 y2 y3 y4 q0 q1
          obtain ⟨y0, y1, y2, y3, y4⟩ := five_cells hbox6
          have hl6 := lt_of_block hbox6
          have HW6 := Lib.hid hW6
          have HK6 := Lib.hid hk6
          have hbl6 := hW6.lt
          clear hbox6 hW6 hk6
          go_wp2_with (first
            | (go_at_call 59; refine (HIH.out p HMEM.out d' _ _ _ w6 (HR.out p HMEM.out) HTY2.out HW6.out (by rw [HSP.out]; omega)).mono ?_; rintro e w7 ⟨rfl, hW7, hk7⟩; rw [HSP.out] at hW7; have HW7 := Lib.hid hW7; have HK7 := Lib.hid hk7; have hbl7 := hW7.lt; clear hW7 hk7)
            | (go_at_call 100; refine (put1 (s := [59]) HW7.out ⟨by simp, by simp⟩ (by omega)).mono ?_; rintro e w8 ⟨rfl, hW8, hk8⟩))
          go_roundg (k - (m + 1))
          case measure => have := HI.out; omega
          case rel =>
            refine ⟨m + 1, rfl, by simp, hlt, (hW8.mono ?_).cast ?_, ((((HKR.out.trans HK4.out).trans HK5.out).trans HK6.out).trans HK7.out).trans hk8⟩
            · rw [HST.out]; omega
            · rw [HPT.out]; simp [List.append_assoc]
      | false =>
        go_wp2_with fail
        clear x0 x1 x2 x3 x4 z0 z1
        obtain ⟨x0, x1, x2, x3, x4⟩ := five_cells HBL4.out
        obtain ⟨y0, y1, y2, y3, y4⟩ := five_cells HBX4.out
        obtain ⟨q0, q1⟩ := HS1.out w4 HW4.out.below
        have HWD := Lib.hid HW4.out.drew
        go_region_with (go_at_call 100; refine (put1 (s := s) HWD.out ⟨HNE.out, hnl⟩ (by omega)).mono ?_; rintro e w6 ⟨rfl, hW6, hk6⟩)
        all_goals
          have hbox6 := hk6 _ _ _ _ HBX4.out (by decide) (by decide)
          clear x0 x1 x2 x3 x4 y0 y1 y2 y3 y4 q0 q1
          obtain ⟨y0, y1, y2, y3, y4⟩ := five_cells hbox6
          have hl6 := lt_of_block hbox6
          have HW6 := Lib.hid hW6
          have HK6 := Lib.hid hk6
          have hbl6 := hW6.lt
          clear hbox6 hW6 hk6
          go_wp2_with (first
            | (go_at_call 59; refine (HIH.out p HMEM.out d' _ _ _ w6 (HR.out p HMEM.out) HTY2.out HW6.out (by rw [HSP.out]; omega)).mono ?_; rintro e w7 ⟨rfl, hW7, hk7⟩; rw [HSP.out] at hW7; have HW7 := Lib.hid hW7; have HK7 := Lib.hid hk7; have hbl7 := hW7.lt; clear hW7 hk7)
            | (go_at_call 100; refine (put1 (s := [59]) HW7.out ⟨by simp, by simp⟩ (by omega)).mono ?_; rintro e w8 ⟨rfl, hW8, hk8⟩))
          go_roundg (k - (m + 1))
          case measure => have := HI.out; omega
          case rel =>
            refine ⟨m + 1, rfl, by simp, hlt, (hW8.mono ?_).cast ?_, ((((HKR.out.trans HK4.out)).trans HK6.out).trans HK7.out).trans hk8⟩
            · rw [HST.out]; omega
            · rw [HPT.out]; simp [List.append_assoc]
    · have hmi : ¬ (m : Int) < (k : Int) := by omega
      have hlast : Sx.fields (t.names.take m) (t.embeds.take m) (t.parts.take m) = Sx.fields t.names t.embeds t.parts := by
        rw [List.take_of_length_le (show t.names.length ≤ m by have := HK.out; have := HNS.out; omega), List.take_of_length_le (show t.parts.length ≤ m by have := HK.out; omega), List.take_of_length_le (show t.embeds.length ≤ m by have := HK.out; have := HES.out; omega)]
      have HLA := Lib.hid hlast
      have hbud : c + 10 + 10 * Sx.sizeL (t.parts.take m) ≤ 1000000000 := by omega
      clear hlast
      go_wp2_with (go_at_call 100; refine (put1 (s := [125]) HWR.out ⟨by simp, by simp⟩ (by omega)).mono ?_; rintro e w5 ⟨rfl, hW5, hk5⟩)
      go_end0
      refine ⟨rfl, (hW5.mono ?_).cast ?_, (HK3.out.trans HKR.out).trans hk5⟩
      · omega
      · rw [HT.out, HLA.out]; simp [List.append_assoc]

set_option maxRecDepth 100000 in
set_option maxHeartbeats 8000000 in
theorem synTyp8 (N : Sx.Names) (hN : Sx.NamesOk N) (W0 : World) (b : Nat) (t : Sx.Ty) (ih : ∀ p ∈ t.parts, SigOk N W0 b p) (hkd : t.kind = 8) : TypOk N W0 b t := by
  intro d v c l w hr ht h hc
  obtain ⟨An, cn, Ae, ce, Ap, cp, rfl, hnm, hem, hp⟩ := ht.agg
  obtain ⟨d', rfl, hr', hsh⟩ := Sx.right_parts hr
  rw [hkd] at hsh ht ⊢
  have hsz := Sx.size_parts t
  have hs1 : c + 10 ≤ 1000000000 := by omega
  have hns : t.names.length = t.parts.length := by simp [Sx.shape] at hsh; omega
  have HAP := Lib.hid (show ∀ s ∈ t.names, N.small s = true from Sx.apart_small (by simp [Sx.shape] at hsh; exact hsh.2.2))
  have HFN := Lib.hid (show ∀ p ∈ t.parts, p.kind = 7 by simp [Sx.shape] at hsh; exact hsh.1)
  have HT := Lib.hid (show Sx.typ t = [[105, 110, 116, 101, 114, 102, 97, 99, 101], [123]] ++ Sx.methods t.names t.parts ++ [[125]] by rw [Sx.typ_eq, hkd]; simp)
  have HNM := Lib.hid hnm
  have HNS := Lib.hid hns
  have HIH := Lib.hid ih
  have hlen := Sx.length_size t.parts
  obtain ⟨k, hk⟩ : ∃ k, t.parts.length = k := ⟨_, rfl⟩
  have hki : (k : Int) ≤ 1000000000 := by omega
  rw [hk] at hp ht ⊢
  have HK := Lib.hid hk
  have HR := Lib.hid hr'
  have HSZ := Lib.hid hsz
  have HTY := Lib.hid ht
  have HP := Lib.hid hp
  obtain ⟨L, hL⟩ : ∃ L, w.heap.size = L := ⟨_, rfl⟩
  obtain ⟨w2, hw2⟩ : ∃ w2, w.alloc (.cells #[.int .i64 8, .string ⟨t.name.toArray⟩, .slice An t.names.length cn, .slice Ae t.embeds.length ce, .slice Ap k cp] 26) = w2 := ⟨_, rfl⟩
  have hbox : w2.heap[L]? = some (.cells #[.int .i64 8, .string ⟨t.name.toArray⟩, .slice An t.names.length cn, .slice Ae t.embeds.length ce, .slice Ap k cp] 26 (0, 0)) := by rw [← hw2, ← hL]; exact heap_alloc_new w _
  have hW2 : Wrote W0 b c l w2 := by rw [← hw2]; exact h.grown (World.grownBy_alloc w _ none)
  have HKW := Lib.hid (show KeepW w w2 by rw [← hw2]; exact KeepW.alloc w _)
  have HBX := Lib.hid hbox
  have HW2 := Lib.hid hW2
  obtain ⟨x0, x1, x2, x3, x4⟩ := five_cells hbox
  have hl2 := lt_of_block hbox
  have hbl := hW2.lt
  clear ih hns hk hr hr' ht hp hnm hem hsz hW2 hbox h hsh hkd
  go_enter Tryz.func59, Tryz.ntmps59
  go_wp2_with (go_at_call 100; refine (put2 (s := [105, 110, 116, 101, 114, 102, 97, 99, 101]) (t := [123]) HW2.out ⟨by simp, by simp⟩ ⟨by simp, by simp⟩ (by omega)).mono ?_; rintro e w3 ⟨rfl, hW3, hk3⟩; have hbox3 := hk3 _ _ _ _ HBX.out (by decide) (by decide); clear x0 x1 x2 x3 x4; obtain ⟨x0, x1, x2, x3, x4⟩ := five_cells hbox3; have hl3 := lt_of_block hbox3; have HW3 := Lib.hid hW3; have HK3 := Lib.hid (HKW.out.trans hk3); have HBX3 := Lib.hid hbox3; clear hbox3 hW3 hk3)
  have H3 := Lib.hid (show Wrote W0 b (c + 2 + 10 * Sx.sizeL (t.parts.take 0)) (l ++ [[105, 110, 116, 101, 114, 102, 97, 99, 101], [123]] ++ Sx.methods (t.names.take 0) (t.parts.take 0)) w3 from (HW3.out.mono (by omega)).cast (by simp [Sx.fields, Sx.methods]))
  clear x0 x1 x2 x3 x4
  go_loopg [122] k (fun i v wr => ∃ (m : Nat), i = k - m ∧ v = .int .i64 (m : Int) ∧ m ≤ k ∧ Wrote W0 b (c + 2 + 10 * Sx.sizeL (t.parts.take m)) (l ++ [[105, 110, 116, 101, 114, 102, 97, 99, 101], [123]] ++ Sx.methods (t.names.take m) (t.parts.take m)) wr ∧ KeepW w3 wr)
  case atStart => exact ⟨0, rfl, rfl, Nat.zero_le _, H3.out, KeepW.refl _⟩
  case round =>
    obtain ⟨m, hi, rfl, hm, hW, hkw⟩ := hrel
    have HI := Lib.hid hi
    have HWR := Lib.hid hW
    have m0 : (0 : Int) ≤ (m : Int) := by omega
    have hboxr := hkw _ _ _ _ HBX3.out (by decide) (by decide)
    have HBR := Lib.hid hboxr
    have HKR := Lib.hid hkw
    have hblr := hW.lt
    have hlr := lt_of_block hboxr
    have hSL := Sx.sizeL_take_le t.parts (m + 1)
    have hSL0 := Sx.sizeL_take_le t.parts m
    have hSZ : 1 + Sx.sizeL t.parts ≤ Sx.size t := by have := HSZ.out; omega
    clear hi hW hkw H3 HW3 HBX3
    by_cases hlt : m < k
    · have hmi : (m : Int) < (k : Int) := by omega
      have hmp : m < t.parts.length := by have := HK.out; omega
      have hmn : m < t.names.length := by have := HNS.out; omega
      have hmni : (m : Int) < (t.names.length : Int) := by omega
      obtain ⟨g, off, An1, cn1, Ae1, ce1, Aq, cq, rfl, hty, hc5⟩ := HP.out.spot m hmp
      obtain ⟨g1, off1, rfl, hsp1⟩ := HNM.out.spot m hmn
      have hst := Sx.size_take hmp
      have hpt := Sx.methods_take HNS.out hmp
      obtain ⟨p, hpe⟩ : ∃ p, t.parts[m]'hmp = p := ⟨_, rfl⟩
      obtain ⟨s, hse⟩ : ∃ s, t.names[m]'hmn = s := ⟨_, rfl⟩
      have hmem : p ∈ t.parts := by rw [← hpe]; exact List.getElem_mem hmp
      have hsm1 : s ∈ t.names := by rw [← hse]; exact List.getElem_mem hmn
      have hnl : s.length ≤ 1000000000 := by have := Sx.name_len hsm1; omega
      have HNE := Lib.hid (hN.small _ (HAP.out s hsm1))
      rw [hpe] at hc5 hty hst hpt
      rw [hse] at hsp1 hpt
      obtain ⟨hg, c0, c1, c2, c3, c4⟩ := hc5 wr HWR.out.below
      have hps := Sx.size_pos p
      have HTY2 := Lib.hid hty
      have HMEM := Lib.hid hmem
      have HS1 := Lib.hid hsp1
      have HPT := Lib.hid hpt
      obtain ⟨sp, hsp⟩ : ∃ sp, Sx.size p = sp := ⟨_, rfl⟩
      obtain ⟨sm, hsm⟩ : ∃ sm, Sx.sizeL (t.parts.take m) = sm := ⟨_, rfl⟩
      rw [hsp, hsm] at hst
      rw [hst] at hSL
      rw [hsp] at hps
      have HSP := Lib.hid hsp
      have HST := Lib.hid hst
      have HSM := Lib.hid hsm
      have hbud : c + 10 + 10 * (sm + sp) ≤ 1000000000 := by omega
      obtain ⟨L4, hL4⟩ : ∃ L, wr.heap.size = L := ⟨_, rfl⟩
      obtain ⟨w4, hw4⟩ : ∃ w4, wr.alloc (.cells #[.int .i64 p.kind, .string ⟨p.name.toArray⟩, .slice An1 p.names.length cn1, .slice Ae1 p.embeds.length ce1, .slice Aq p.parts.length cq] 26) = w4 := ⟨_, rfl⟩
      have hbox4 : w4.heap[L4]? = some (.cells #[.int .i64 p.kind, .string ⟨p.name.toArray⟩, .slice An1 p.names.length cn1, .slice Ae1 p.embeds.length ce1, .slice Aq p.parts.length cq] 26 (0, 0)) := by rw [← hw4, ← hL4]; exact heap_alloc_new wr _
      have HBX4 := Lib.hid hbox4
      have HW4 := Lib.hid (show Wrote W0 b (c + 2 + 10 * sm) (l ++ [[105, 110, 116, 101, 114, 102, 97, 99, 101], [123]] ++ Sx.methods (t.names.take m) (t.parts.take m)) w4 by rw [← hw4, ← HSM.out]; exact HWR.out.grown (World.grownBy_alloc wr _ none))
      have HK4 := Lib.hid (show KeepW wr w4 by rw [← hw4]; exact KeepW.alloc wr _)
      have HBL4 := Lib.hid (HK4.out _ _ _ _ HBR.out (by decide) (by decide))
      have hl4 : L4 < w4.heap.size := lt_of_block hbox4
      have hll4 : L < w4.heap.size := lt_of_block HBL4.out
      have hbl4 : b < w4.heap.size := HW4.out.lt
      clear hty hpt hmem hpe hsp hsm hst hbox4 hse hsm1 hc5 hsp1
      have HPR := Lib.hid (show (∀ q ∈ p.parts, Sx.rightT N (d' - 1) q = true) ∧ p.parts ≠ [] by
        obtain ⟨e', he', hq, hs'⟩ := Sx.right_parts (HR.out p HMEM.out)
        refine ⟨fun q hq' => by rw [he']; exact hq q hq', ?_⟩
        rw [HFN.out p HMEM.out] at hs'
        rintro e
        simp [Sx.shape, e] at hs')
      go_wp2_with fail
      obtain ⟨x0, x1, x2, x3, x4⟩ := five_cells HBL4.out
      obtain ⟨y0, y1, y2, y3, y4⟩ := five_cells HBX4.out
      obtain ⟨q0, q1⟩ := HS1.out w4 HW4.out.below
      have HWD := Lib.hid HW4.out.drew
      go_region_with (go_at_call 100; refine (put1 (s := s) HWD.out ⟨HNE.out, hnl⟩ (by omega)).mono ?_; rintro e w6 ⟨rfl, hW6, hk6⟩)
      all_goals
        have hbox6 := hk6 _ _ _ _ HBX4.out (by decide) (by decide)
        clear x0 x1 x2 x3 x4 y0 y1 y2 y3 y4 q0 q1
        obtain ⟨y0, y1, y2, y3, y4⟩ := five_cells hbox6
        have hl6 := lt_of_block hbox6
        have HW6 := Lib.hid hW6
        have HK6 := Lib.hid hk6
        have hbl6 := hW6.lt
        clear hbox6 hW6 hk6
        go_wp2_with (first
          | (go_at_call 109; refine (HIH.out p HMEM.out _ _ _ _ w6 HPR.out.1 HPR.out.2 HTY2.out HW6.out (by rw [HSP.out]; omega)).mono ?_; rintro e w7 ⟨rfl, hW7, hk7⟩; rw [HSP.out] at hW7; have HW7 := Lib.hid hW7; have HK7 := Lib.hid hk7; have hbl7 := hW7.lt; clear hW7 hk7)
          | (go_at_call 100; refine (put1 (s := [59]) HW7.out ⟨by simp, by simp⟩ (by omega)).mono ?_; rintro e w8 ⟨rfl, hW8, hk8⟩))
        go_roundg (k - (m + 1))
        case measure => have := HI.out; omega
        case rel =>
          refine ⟨m + 1, rfl, by simp, hlt, (hW8.mono ?_).cast ?_, ((((HKR.out.trans HK4.out)).trans HK6.out).trans HK7.out).trans hk8⟩
          · rw [HST.out]; omega
          · rw [HPT.out]; simp [List.append_assoc]
    · have hmi : ¬ (m : Int) < (k : Int) := by omega
      have hlast : Sx.methods (t.names.take m) (t.parts.take m) = Sx.methods t.names t.parts := by
        rw [List.take_of_length_le (show t.names.length ≤ m by have := HK.out; have := HNS.out; omega), List.take_of_length_le (show t.parts.length ≤ m by have := HK.out; omega)]
      have HLA := Lib.hid hlast
      have hbud : c + 10 + 10 * Sx.sizeL (t.parts.take m) ≤ 1000000000 := by omega
      clear hlast
      go_wp2_with (go_at_call 100; refine (put1 (s := [125]) HWR.out ⟨by simp, by simp⟩ (by omega)).mono ?_; rintro e w5 ⟨rfl, hW5, hk5⟩)
      go_end0
      refine ⟨rfl, (hW5.mono ?_).cast ?_, (HK3.out.trans HKR.out).trans hk5⟩
      · omega
      · rw [HT.out, HLA.out]; simp [List.append_assoc]

end Go.Proofs.YtdncljdfmdgdaaaGreatDoor

namespace Go.Proofs.YtdncljdfmdgdaaaGreatDoor
open Go.RowKit Go.Shelf Go.WideMaps
set_option linter.unusedSimpArgs false
set_option linter.unusedVariables false

/-- Is a text a token of a kind? -/
def isTok (k : Int) (s : Lx.Bytes) : Bool := (Lx.join [⟨0, k, s, 0⟩]).2 != 1
/-- Chapter 1's names. -/
def NM : Sx.Names := ⟨isTok 1, isTok 2, isTok 5⟩

set_option maxRecDepth 100000 in
set_option maxHeartbeats 1000000 in
theorem synIs (k : Int) (s : Lx.Bytes) (w : World) (hG : GS w) (hN : NG ≤ w.heap.size) (hs : s.length ≤ 1000000000) :
    Calls Tryz.prog 133 #[.int .i64 k, .string ⟨s.toArray⟩] w fun e w' => e = .returned (.bool (isTok k s)) ∧ Below w.heap.size w w' := by
  obtain ⟨w2, hw2⟩ : ∃ w2, w.alloc (.cells #[.int .i64 0, .int .i64 k, .string ⟨s.toArray⟩, .int .i64 0] 133) = w2 := ⟨_, rfl⟩
  have hg : Below w.heap.size w w2 := by rw [← hw2]; exact grown_below (World.grownBy_alloc w _ none)
  have hin : ToksIn w2 (.slice (some ⟨w.heap.size, 0, none⟩) 1 1) [⟨0, k, s, 0⟩] := .inr ⟨w.heap.size, 1, #[.int .i64 0, .int .i64 k, .string ⟨s.toArray⟩, .int .i64 0], (0, 0), rfl, by rw [← hw2]; exact heap_alloc_new w _, rfl⟩
  have hj := lexJoin [⟨0, k, s, 0⟩] _ w2 (hG.below hg) (Nat.le_trans hN hg.size) hin (by simp) (by intro t ht; simp at ht; subst ht; exact ⟨hs, by simp, by simp⟩)
  obtain ⟨r, hr⟩ : ∃ r, Lx.join [⟨0, k, s, 0⟩] = r := ⟨_, rfl⟩
  have hb : isTok k s = (r.2 != 1) := by unfold isTok; rw [hr]
  rw [hr] at hj
  rw [hb]
  have hc : ((r.2 : Int) != 1) = (r.2 != 1) := by rw [Bool.eq_iff_iff]; simp; omega
  have HC := Lib.hid hc
  clear hc
  have HG := Lib.hid hg
  have HJ := Lib.hid hj
  clear hr hb hin hj hg
  go_enter Tryz.func133, Tryz.ntmps133
  go_wp2_with (go_at_call 48; refine HJ.out.mono ?_; rintro e w3 ⟨rfl, h3⟩)
  go_ret
  rw [← HC.out]
  exact ⟨rfl, HG.out.trans (h3.mono HG.out.size)⟩
set_option maxRecDepth 100000 in
theorem synName (s : Lx.Bytes) (w : World) (hG : GS w) (hN : NG ≤ w.heap.size) (hs : s.length ≤ 1000000000) :
    Calls Tryz.prog 132 #[.string ⟨s.toArray⟩] w fun e w' => e = .returned (.bool (NM.small s)) ∧ Below w.heap.size w w' := by
  have hi := synIs 1 s w hG hN hs
  have HI := Lib.hid hi
  clear hi
  go_enter Tryz.func132, Tryz.ntmps132
  go_wp2_with (go_at_call 133; refine HI.out.mono ?_; rintro e w3 ⟨rfl, h3⟩)
  go_ret
  exact ⟨rfl, h3⟩
set_option maxRecDepth 100000 in
theorem synGreat (s : Lx.Bytes) (w : World) (hG : GS w) (hN : NG ≤ w.heap.size) (hs : s.length ≤ 1000000000) :
    Calls Tryz.prog 107 #[.string ⟨s.toArray⟩] w fun e w' => e = .returned (.bool (NM.great s)) ∧ Below w.heap.size w w' := by
  have hi := synIs 2 s w hG hN hs
  have HI := Lib.hid hi
  clear hi
  go_enter Tryz.func107, Tryz.ntmps107
  go_wp2_with (go_at_call 133; refine HI.out.mono ?_; rintro e w3 ⟨rfl, h3⟩)
  go_ret
  exact ⟨rfl, h3⟩
set_option maxRecDepth 100000 in
theorem synBytes (s : Lx.Bytes) (w : World) (hG : GS w) (hN : NG ≤ w.heap.size) (hs : s.length ≤ 1000000000) :
    Calls Tryz.prog 134 #[.string ⟨s.toArray⟩] w fun e w' => e = .returned (.bool (NM.said s)) ∧ Below w.heap.size w w' := by
  have hi := synIs 5 s w hG hN hs
  have HI := Lib.hid hi
  clear hi
  go_enter Tryz.func134, Tryz.ntmps134
  go_wp2_with (go_at_call 133; refine HI.out.mono ?_; rintro e w3 ⟨rfl, h3⟩)
  go_ret
  exact ⟨rfl, h3⟩

theorem Sx.apart_iff (N : Sx.Names) : ∀ l : List Lx.Bytes, Sx.apart N l = true ↔ (∀ s ∈ l, N.small s = true) ∧ l.Nodup
  | [] => by simp [Sx.apart]
  | s :: l => by
    rw [Sx.apart, Bool.and_eq_true, Bool.and_eq_true, Sx.apart_iff N l, List.nodup_cons]
    simp only [Bool.not_eq_true', List.contains_eq_mem, decide_eq_false_iff_not, List.mem_cons, forall_eq_or_imp]
    constructor
    · rintro ⟨a, b, c, d⟩; exact ⟨⟨a, c⟩, b, d⟩
    · rintro ⟨⟨a, c⟩, b, d⟩; exact ⟨a, b, c, d⟩

/-- A map of counts of the call's own. -/
def Counts (b : Nat) (l : List Lx.Bytes) (w : World) : Prop := ∃ n, ∃ D : DataW Unit, n ≤ l.length ∧ w.ownsMap Tryz.prog 9 (plainElem Tryz.prog 3) b n D ∧ Maps.IsMap D ∧ ∀ s, D.atKey (.string s) (.lit (.int .i64 0)) = .lit (.int .i64 (l.count s : Nat))
theorem Counts.kept {b : Nat} {l : List Lx.Bytes} {w w' : World} (h : Counts b l w) (hg : w.grownBy w' none) : Counts b l w' := by
  obtain ⟨n, D, hn, hm, hD, hat⟩ := h
  exact ⟨n, D, hn, hm.kept hg (by simp), hD, hat⟩
theorem Counts.below {b : Nat} {l : List Lx.Bytes} {w w' : World} (h : Counts b l w) (hg : Below w.heap.size w w') : Counts b l w' := h.kept (below_grown hg)
set_option maxRecDepth 100000 in
/-- Looked up. -/
theorem Counts.look {b : Nat} {l : List Lx.Bytes} {w : World} (h : Counts b l w) (s : Lx.Bytes) (hs : s.length ≤ 140737488351232) :
    (Instr.lookup 107 (.map (some b)) (.string ⟨s.toArray⟩) false).run Tryz.prog w = .ok (.int .i64 (l.count s : Nat)) w := by
  obtain ⟨n, D, hn, hm, hD, hat⟩ := h
  have hkey : keyOf Tryz.prog 9 (.string ⟨s.toArray⟩) = some (.string s) := by
    simpa using keyOf_string_mk (P := Tryz.prog) Tryz.underlying9 (s := ⟨s.toArray⟩) (by simp [ByteArray.size, maxLen]; omega)
  obtain ⟨c, hlk, hc, wc⟩ := hm.lookup_int (Maps.string_keyed (P := Tryz.prog) Tryz.underlying9) Tryz.underlying107 Tryz.underlying3 (zeroInt _) hkey
  rw [hat s] at hc
  injection hc with hc
  injection hc with _ hc
  subst hc
  exact hlk
set_option maxRecDepth 100000 in
theorem wpList_count {ops : Array Oper} {rest : List Oper} {o : Oper} {a : Act} {Q : Exit → Act → World → Prop} {b : Nat} {l : List Lx.Bytes} {w : World} (h : Counts b l w) (s : Lx.Bytes) (hs : s.length ≤ 140737488351232) (hl : l.length ≤ 1000000)
    (hg : o.guard = none) (m x v : Operand) (hop : o.op = Op.mapUpdate 107 m x v) (hm : a.eval m = .map (some b)) (hx : a.eval x = .string ⟨s.toArray⟩) {c : Int} (hv : a.eval v = .int .i64 c) (hc : c = (l.count s : Int) + 1)
    (hK : ∀ w', Counts b (l ++ [s]) w' → w.grownBy w' (some b) → wpList Tryz.prog ops Q rest (a.put o.dst undef) w') : wpList Tryz.prog ops Q (o :: rest) a w := by
  obtain ⟨n, D, hn, hown, hD, hat⟩ := h
  have hkey : keyOf Tryz.prog 9 (.string ⟨s.toArray⟩) = some (.string s) := by
    simpa using keyOf_string_mk (P := Tryz.prog) Tryz.underlying9 (s := ⟨s.toArray⟩) (by simp [ByteArray.size, maxLen]; omega)
  have hcl := List.count_le_length (a := s) (l := l)
  refine wpList_mapUpdate_own _ hg m x v 107 hop 9 3 (Maps.string_keyed (P := Tryz.prog) Tryz.underlying9) Tryz.underlying107 _ b n _ hm hown (by unfold maxLen; omega) _ _ _ hx hv hkey _ [] (plainElem_int Tryz.underlying3 (wrapOk c (by omega) (by omega))) ?_
  intro w' h1 h2
  subst hc
  refine hK w' ⟨n + 1, _, by simp; omega, h1, hD.put _ _, fun t => ?_⟩ h2
  rw [List.count_append]
  by_cases hts : t = s
  · subst hts
    rw [Maps.atKey_put_same hD (by trivial)]
    simp
  · rw [Maps.atKey_put_other (by intro e; injection e with e; exact hts e), hat t]
    have : List.count t [s] = 0 := by rw [List.count_eq_zero]; simpa using hts
    rw [this, Nat.add_zero]

set_option maxRecDepth 100000 in
set_option maxHeartbeats 4000000 in
theorem synUnlike (ns : List Lx.Bytes) (v : Value) (w : World) (hG : GS w) (hN : NG ≤ w.heap.size) (hv : StrRow w v ns) (hl : ns.length ≤ 1000000) (hs : ∀ s ∈ ns, s.length ≤ 1000000000) :
    Calls Tryz.prog 108 #[v] w fun e w' => e = .returned (.bool (Sx.apart NM ns)) ∧ Below w.heap.size w w' := by
  have hmm := @run_makeMap Tryz.prog
  obtain ⟨A, c, rfl, hi⟩ := hv
  have hv : StrRow w (.slice A ns.length c) ns := ⟨A, c, rfl, hi⟩
  have HV := Lib.hid hv
  have HG := Lib.hid hG
  have HS := Lib.hid hs
  obtain ⟨L, hL⟩ : ∃ L, w.heap.size = L := ⟨_, rfl⟩
  obtain ⟨w2, hw2⟩ : ∃ w2, w.alloc (.map #[] 0) = w2 := ⟨_, rfl⟩
  have hc0 : Counts L [] w2 := ⟨0, .map [], Nat.le_refl _, by rw [← hw2, ← hL]; exact World.ownsMap_made w _ _ _, Maps.isMap_empty, fun s => rfl⟩
  have hb0 : Below L w w2 := by rw [← hw2, ← hL]; exact grown_below (World.grownBy_alloc w _ none)
  have hl2 : L < w2.heap.size := by rw [← hw2]; simp; omega
  have HC0 := Lib.hid hc0
  have HB0 := Lib.hid hb0
  have HL := Lib.hid hL
  have hNL : NG ≤ L := by omega
  clear hv hi hG hs hc0 hb0
  go_enter Tryz.func108, Tryz.ntmps108
  go_wp2_with fail
  go_loopg [9] (ns.length) (fun i v wr => ∃ (m : Nat), i = ns.length - m ∧ v = .int .i64 (m : Int) ∧ m ≤ ns.length ∧ Counts L (ns.take m) wr ∧ Below L w wr ∧ L < wr.heap.size ∧ (∀ s ∈ ns.take m, NM.small s = true) ∧ (ns.take m).Nodup)
  case atStart => exact ⟨0, rfl, rfl, Nat.zero_le _, HC0.out, HB0.out, hl2, by simp, by simp⟩
  case round =>
    obtain ⟨m, hi, rfl, hm, hC, hb, hlr, hsm, hnd⟩ := hrel
    have HI := Lib.hid hi
    have HC := Lib.hid hC
    have HB := Lib.hid hb
    have HSM := Lib.hid hsm
    have HND := Lib.hid hnd
    have m0 : (0 : Int) ≤ (m : Int) := by omega
    clear hi hC hb hsm hnd
    by_cases hlt : m < ns.length
    · have hmi : (m : Int) < (ns.length : Int) := by omega
      obtain ⟨g, off, rfl, hsp⟩ := HV.out.spot m hlt
      obtain ⟨q0, q1⟩ := hsp wr (by rw [HL.out]; exact HB.out)
      have htk := List.take_succ_eq_append_getElem hlt
      have hmem := List.getElem_mem hlt
      obtain ⟨s, hse⟩ : ∃ s, ns[m]'hlt = s := ⟨_, rfl⟩
      rw [hse] at q1 htk hmem
      have hsl := HS.out s hmem
      have hlk := HC.out.look s (by omega)
      obtain ⟨k, hk⟩ : ∃ k, (ns.take m).count s = k := ⟨_, rfl⟩
      have hkl : k ≤ 1000000 := by have := List.count_le_length (a := s) (l := ns.take m); simp at this; omega
      have hki : (k : Int) ≤ 1000000 := by omega
      have hk0 : (0 : Int) ≤ (k : Int) := by omega
      rw [hk] at hlk
      have HTK := Lib.hid htk
      have HK := Lib.hid hk
      have HMEM := Lib.hid hmem
      clear htk hk hmem hsp hse
      go_wp2_with (at_mapUpdate; refine wpList_count HC.out s (by omega) (by simp; omega) rfl _ _ _ rfl rfl rfl rfl (by rw [HK.out]) ?_)
      intro w3 hC3 hg3
      have hb3 : Below L w w3 := HB.out.grown hg3 (by omega) (fun j e => by injection e with e; omega)
      have hG3 := HG.out.below (by rw [HL.out]; exact hb3)
      have hlk3 := hC3.look s (by omega)
      have hct : (ns.take m ++ [s]).count s = k + 1 := by rw [List.count_append, HK.out]; simp
      rw [hct] at hlk3
      have hsz3 := hg3.size
      have hname := synName s w3 hG3 (by omega) hsl
      have HG3 := Lib.hid hg3
      have HC3 := Lib.hid hC3
      have HB3 := Lib.hid hb3
      have HNM := Lib.hid hname
      obtain ⟨kk, hkk⟩ : ∃ kk, k + 1 = kk := ⟨_, rfl⟩
      rw [hkk] at hlk3
      have HKK := Lib.hid hkk
      clear hg3 hC3 hb3 hG3 hct hname hlk hkk
      by_cases hz : k = 0
      · have hgt : decide ((1 : Int) < (kk : Int)) = false := by simp; have := HKK.out; omega
        have hgt2 : ¬ (1 : Int) < (kk : Int) := by have := HKK.out; omega
        have HZ := Lib.hid hz
        clear hz
        cases hsmall : NM.small s with
        | true =>
          rw [hsmall] at HNM
          have HSMALL := Lib.hid hsmall
          clear hsmall
          go_wp2_with (go_at_call 132; refine HNM.out.mono ?_; rintro e w4 ⟨rfl, hb4⟩)
          go_roundg (ns.length - (m + 1))
          case measure => have := HI.out; omega
          case rel =>
            refine ⟨m + 1, rfl, by simp, hlt, ?_, HB3.out.trans (hb4.mono (by omega)), Nat.lt_of_lt_of_le (by omega) hb4.size, ?_, ?_⟩
            · rw [HTK.out]; exact HC3.out.below hb4
            · rw [HTK.out]
              intro t ht
              rcases List.mem_append.1 ht with h | h
              · exact HSM.out t h
              · rw [List.mem_singleton] at h; rw [h]; exact HSMALL.out
            · rw [HTK.out, List.nodup_append]
              refine ⟨HND.out, by simp, ?_⟩
              intro a ha b hb hab
              rw [List.mem_singleton] at hb
              subst hb hab
              have := List.count_eq_zero.1 (HK.out.trans HZ.out)
              exact this ha
        | false =>
          rw [hsmall] at HNM
          have HF := Lib.hid (show Sx.apart NM ns = false by
            cases h : Sx.apart NM ns with
            | false => rfl
            | true => have := ((Sx.apart_iff _ _).1 h).1 s HMEM.out; rw [hsmall] at this; cases this)
          clear hsmall
          go_wp2_with (go_at_call 132; refine HNM.out.mono ?_; rintro e w4 ⟨rfl, hb4⟩)
          go_ret
          rw [HF.out, HL.out]
          exact ⟨rfl, HB3.out.trans (hb4.mono (by omega))⟩
      · have hgt : decide ((1 : Int) < (kk : Int)) = true := by simp; have := HKK.out; omega
        have hgt2 : (1 : Int) < (kk : Int) := by have := HKK.out; omega
        have HF := Lib.hid (show Sx.apart NM ns = false by
          cases h : Sx.apart NM ns with
          | false => rfl
          | true =>
            have hn := ((Sx.apart_iff _ _).1 h).2
            have h2 : (ns.take m ++ [s]).Nodup := by rw [← HTK.out]; exact hn.sublist (List.take_sublist _ _)
            rw [List.nodup_append] at h2
            have h3 : s ∈ ns.take m := Decidable.byContradiction fun hne => by
              have := List.count_eq_zero.2 hne
              have := HK.out
              omega
            exact absurd rfl (h2.2.2 s h3 s (by simp)))
        go_wp2_with fail
        go_ret
        rw [HF.out, HL.out]
        exact ⟨rfl, HB3.out⟩
    · have hmi : ¬ (m : Int) < (ns.length : Int) := by omega
      have HT := Lib.hid (show Sx.apart NM ns = true by
        rw [Sx.apart_iff]
        have h1 := HSM.out
        have h2 := HND.out
        rw [List.take_of_length_le (by omega)] at h1 h2
        exact ⟨h1, h2⟩)
      go_wp2_with fail
      go_ret
      rw [HT.out]
      exact ⟨rfl, HB.out⟩

end Go.Proofs.YtdncljdfmdgdaaaGreatDoor

namespace Go.Proofs.YtdncljdfmdgdaaaGreatDoor
open Go.RowKit Go.Shelf Go.WideMaps
set_option linter.unusedSimpArgs false
set_option linter.unusedVariables false

theorem Sx.shape_kind {N : Sx.Names} {k : Int} {n : Lx.Bytes} {ns : List Lx.Bytes} {es : List Bool} {ps : List Sx.Ty} (h : Sx.shape N k n ns es ps = true) : k = 1 ∨ k = 2 ∨ k = 3 ∨ k = 4 ∨ k = 5 ∨ k = 6 ∨ k = 7 ∨ k = 8 := by
  unfold Sx.shape at h
  split at h
  · omega
  · split at h
    · omega
    · split at h
      · omega
      · split at h
        · omega
        · split at h
          · omega
          · split at h
            · omega
            · cases h
theorem synTypAll (N : Sx.Names) (hN : Sx.NamesOk N) (W0 : World) (b : Nat) : ∀ (n : Nat) (t : Sx.Ty), Sx.size t ≤ n → TypOk N W0 b t ∧ SigOk N W0 b t := by
  intro n
  induction n with
  | zero => intro t h; have := Sx.size_pos t; omega
  | succ n ih =>
    intro t hn
    have hp : ∀ p ∈ t.parts, TypOk N W0 b p ∧ SigOk N W0 b p := by
      intro p hp
      refine ih p ?_
      have := Sx.size_mem hp
      have := Sx.size_parts t
      omega
    have hsig := synSig N W0 b t (fun p h => (hp p h).1)
    refine ⟨?_, hsig⟩
    intro d v c l w hr ht h hc
    obtain ⟨d', hd, hr', hsh⟩ := Sx.right_parts hr
    rcases Sx.shape_kind hsh with hk | hk | hk | hk | hk | hk | hk | hk
    · exact synTyp1 N hN W0 b t hk d v c l w hr ht h hc
    · exact synTyp2 N hN W0 b t hk d v c l w hr ht h hc
    · exact synTyp3 N hN W0 b t hk d v c l w hr ht h hc
    · exact synTyp4 N hN W0 b t hk d v c l w hr ht h hc
    · exact synTyp5 N hN W0 b t (fun p h => (hp p h).1) hk d v c l w hr ht h hc
    · exact synTyp6 N hN W0 b t (fun p h => (hp p h).1) hk d v c l w hr ht h hc
    · exact synTyp7 N hN W0 b t hsig hk d v c l w hr ht h hc
    · exact synTyp8 N hN W0 b t (fun p h => (hp p h).2) hk d v c l w hr ht h hc

end Go.Proofs.YtdncljdfmdgdaaaGreatDoor
