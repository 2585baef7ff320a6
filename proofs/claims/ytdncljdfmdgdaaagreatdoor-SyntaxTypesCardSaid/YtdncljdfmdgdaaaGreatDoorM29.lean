/-
  The walk of coilref2.RightType.
-/
/-
 The walk of coilref2.RightType.
-/
import Derived.Test.YtdncljdfmdgdaaaGreatDoorM28
import Derived.Test.YtdncljdfmdgdaaaGreatDoorM15
namespace Go.Proofs.YtdncljdfmdgdaaaGreatDoor
open Go.RowKit Go.Shelf
set_option linter.unusedSimpArgs false
set_option linter.unusedVariables false
def RRightOk (d : Nat) : Prop := ∀ (t : Sx.Ty) (v : Value) (w0 W : World), LW w0 W → IsTy W v t → Sx.size t ≤ 1000000 →
 Calls Tryz.prog 27 #[v, .int .i64 (d : Nat)] W fun e W' => e = .returned (.bool (Sx.rightT NM d t)) ∧ LW W W'
set_option maxRecDepth 100000 in
theorem zkyZ : RRightOk 0 := by
 intro t v w0 W hG ht hsz
 have HW := Lib.hid hG.self
 obtain ⟨An, cn, Ae, ce, Ap, cp, rfl, -, -, -⟩ := ht.agg
 clear hG
 go_enter Tryz.func27, Tryz.ntmps27
 go_wp2_with fail
 go_ret
 rw [Sx.right_zero]
 exact ⟨rfl, HW.out.alloc _⟩
set_option maxRecDepth 100000 in
set_option maxHeartbeats 16000000 in
theorem zkzZ (d : Nat) (hd : d + 1 ≤ 64) (ih : RRightOk d) : RRightOk (d + 1) := by
 intro t v w0 W hG ht hsz
 have HW := Lib.hid hG.self
 obtain ⟨An, cn, Ae, ce, Ap, cp, rfl, hnm, hem, hp⟩ := ht.agg
 obtain ⟨e, he⟩ : ∃ e : Int, ((d + 1 : Nat) : Int) = e := ⟨_, rfl⟩
 have he0 : (e == 0) = false := by rw [beq_eq_false_iff_ne]; omega
 have he1 : 1 ≤ e := by omega
 have he2 : e ≤ 64 := by omega
 have hrec : ∀ (p : Sx.Ty) (u : Value) (X : World), LW W X → IsTy X u p → Sx.size p ≤ 1000000 →
   Calls Tryz.prog 27 #[u, .int .i64 (e - 1)] X fun e X' => e = .returned (.bool (Sx.rightT NM d p)) ∧ LW W X' ∧ Below X.heap.size X X' := by
  intro p u X h1 h2 h3
  rw [show e - 1 = (d : Int) by omega]
  exact (ih p u W X h1 h2 h3).mono fun e X' h => ⟨h.1, h1.trans h.2, h.2.b⟩
 have hsp := Sx.size_parts t
 have hlen := Sx.length_size t.parts
 have hnamelen := fun s (hs : s ∈ t.names) => Sx.name_len (t := t) hs
 have HRT0 := Lib.hid (Sx.right_eq NM d t)
 obtain ⟨k, hk⟩ : ∃ k, t.parts.length = k := ⟨_, rfl⟩
 obtain ⟨kd, hkd⟩ : ∃ kd, t.kind = kd := ⟨_, rfl⟩
 obtain ⟨nm, hnmm⟩ : ∃ kd, t.name = kd := ⟨_, rfl⟩
 obtain ⟨nl, hnl⟩ : ∃ kd, t.names.length = kd := ⟨_, rfl⟩
 obtain ⟨el, hel⟩ : ∃ kd, t.embeds.length = kd := ⟨_, rfl⟩
 have hki : (k : Int) ≤ 1000000 := by omega
 have hni : (nl : Int) ≤ 1000000 := by omega
 have hei : (el : Int) ≤ 1000000 := by omega
 have hk0 : (0 : Int) ≤ (k : Int) := by omega
 have hn0 : (0 : Int) ≤ (nl : Int) := by omega
 have hem0 : (0 : Int) ≤ (el : Int) := by omega
 have hnml : nm.length ≤ 1000000 := by rw [← hnmm]; omega
 rw [he, hk, hkd, hnmm, hnl, hel]
 rw [hk] at hp
 rw [hnl] at hnm
 have HK := Lib.hid hk
 have HKD := Lib.hid hkd
 have HNMM := Lib.hid hnmm
 have HNL := Lib.hid hnl
 have HEL := Lib.hid hel
 have HREC := Lib.hid hrec
 have HSZ := Lib.hid (show Sx.size t ≤ 1000000 from hsz)
 have HSP := Lib.hid hsp
 have HP := Lib.hid hp
 have HNM := Lib.hid hnm
 have HNML := Lib.hid (show ∀ s ∈ t.names, s.length ≤ 1000000 from fun s hs => by have := hnamelen s hs; omega)
 have HHE := Lib.hid he
 obtain ⟨L, hL⟩ : ∃ L, W.heap.size = L := ⟨_, rfl⟩
 obtain ⟨w2, hw2⟩ : ∃ w2, W.alloc (.cells #[.int .i64 kd, .string ⟨nm.toArray⟩, .slice An nl cn, .slice Ae el ce, .slice Ap k cp] 26) = w2 := ⟨_, rfl⟩
 have hbox : w2.heap[L]? = some (.cells #[.int .i64 kd, .string ⟨nm.toArray⟩, .slice An nl cn, .slice Ae el ce, .slice Ap k cp] 26 (0, 0)) := by rw [← hw2, ← hL]; exact heap_alloc_new W _
 have hlw2 : LW W w2 := by rw [← hw2]; exact HW.out.alloc _
 have HBX := Lib.hid hbox
 have HB2 := Lib.hid hlw2
 have HL := Lib.hid hL
 obtain ⟨x0, x1, x2, x3, x4⟩ := zcZ hbox
 have hl2 := zaZ hbox
 clear ih hG ht hnm hem hp he hrec hsp hlen hk hkd hnmm hnl hel hbox hlw2 hsz hnamelen
 go_enter Tryz.func27, Tryz.ntmps27
 go_wp2_with fail
 clear x0 x1 x2 x3 x4
 go_loopg [5] k (fun i v wr => ∃ (m : Nat), i = k - m ∧ v = .int .i64 (m : Int) ∧ m ≤ k ∧ LW W wr ∧ wr.heap[L]? = w2.heap[L]? ∧ (∀ p ∈ t.parts.take m, Sx.rightT NM d p = true))
 case atStart => exact ⟨0, rfl, rfl, Nat.zero_le _, HB2.out, rfl, by simp⟩
 case round =>
  obtain ⟨m, hi, rfl, hm, hwr, hbr, hall⟩ := hrel
  rw [HBX.out] at hbr
  obtain ⟨x0, x1, x2, x3, x4⟩ := zcZ hbr
  have hlr := zaZ hbr
  have HI := Lib.hid hi
  have HWR := Lib.hid hwr
  have HBX3 := Lib.hid hbr
  have HALL0 := Lib.hid hall
  have m0 : (0 : Int) ≤ (m : Int) := by omega
  clear hi hwr hbr hall
  by_cases hlt : m < k
  ·have hmi : (m : Int) < (k : Int) := by omega
   have hmp : m < t.parts.length := by have := HK.out; omega
   obtain ⟨g, off, An1, cn1, Ae1, ce1, Aq, cq, rfl, hty, hc5⟩ := HP.out.spot m hmp
   obtain ⟨hg, c0, c1, c2, c3, c4⟩ := hc5 wr HWR.out.b
   have htk := List.take_succ_eq_append_getElem hmp
   obtain ⟨p, hpe⟩ : ∃ p, t.parts[m]'hmp = p := ⟨_, rfl⟩
   have hmem : p ∈ t.parts := by rw [← hpe]; exact List.getElem_mem hmp
   rw [hpe] at c0 c1 c2 c3 c4 htk hty
   have hpz : Sx.size p ≤ 1000000 := by have := Sx.size_mem hmem; have := HSP.out; have := HSZ.out; omega
   have HMEM := Lib.hid hmem
   have HTK := Lib.hid htk
   have hr4 := HREC.out p _ wr HWR.out (IsTy.below HWR.out.b _ _ hty) hpz
   have HR4 := Lib.hid hr4
   clear hty hc5 hpe hmem htk hpz hr4
   go_wp2_with fail
   cases hpr : Sx.rightT NM d p with
   | true =>
    rw [hpr] at HR4
    have HPR := Lib.hid hpr
    clear hpr
    refine HR4.out.mono ?_
    rintro e w5 ⟨rfl, hw5, hb5⟩
    go_wp2_with fail
    go_roundg (k - (m + 1))
    case measure => have := HI.out; omega
    case rel =>
     refine ⟨m + 1, rfl, by simp, hlt, hw5, ?_, ?_⟩
     ·rw [HBX.out, hb5.block L hlr, HBX3.out]
     ·rw [HTK.out]
      intro q hq
      rcases List.mem_append.1 hq with h | h
      ·exact HALL0.out q h
      ·rw [List.mem_singleton] at h; rw [h]; exact HPR.out
   | false =>
    rw [hpr] at HR4
    have HF := Lib.hid (show Sx.rightT NM (d + 1) t = false by rw [HRT0.out, Sx.rights_not NM d HMEM.out hpr]; rfl)
    clear hpr
    refine HR4.out.mono ?_
    rintro e w5 ⟨rfl, hw5, hb5⟩
    go_wp2_with fail
    go_ret
    rw [HF.out]
    exact ⟨rfl, hw5⟩
  ·have hmi : ¬ (m : Int) < (k : Int) := by omega
   have HRT := Lib.hid (show Sx.rightT NM (d + 1) t = Sx.shape NM t.kind t.name t.names t.embeds t.parts by
    rw [HRT0.out, Sx.rights_all NM d]
    ·rfl
    ·have h := HALL0.out
     rwa [List.take_of_length_le (by have := HK.out; omega)] at h)
   clear hlt hm
   go_upto_region 8 with (fail)
   go_cut [6] (fun v wx => v = .bool (Sx.plain t) ∧ wx = wr)
   case first =>
    have hpe : Sx.plain t = (nm.isEmpty && ((nl == 0) && (el == 0))) := by
     unfold Sx.plain
     rw [HNMM.out, ← HNL.out, ← HEL.out]
     cases t.names <;> cases t.embeds <;> rfl
    have HPE := Lib.hid hpe
    clear hpe
    cases hb1 : nm.isEmpty with
    | false =>
     go_wp2_with fail
     go_meet
     exact ⟨by rw [HPE.out, hb1]; rfl, rfl⟩
    | true =>
     by_cases hb2 : nl = 0
     ·have b2 : ((nl : Int) == 0) = true := by rw [beq_iff_eq]; omega
      have HB2' := Lib.hid (show (nl == 0) = true by rw [beq_iff_eq]; omega)
      clear hb2
      by_cases hb3 : el = 0
      ·have b3 : ((el : Int) == 0) = true := by rw [beq_iff_eq]; omega
       have HB3' := Lib.hid (show (el == 0) = true by rw [beq_iff_eq]; omega)
       clear hb3
       go_wp2_with fail
       go_meet
       exact ⟨by rw [HPE.out, hb1, HB2'.out, HB3'.out]; rfl, rfl⟩
      ·have b3 : ((el : Int) == 0) = false := by rw [beq_eq_false_iff_ne]; omega
       have HB3' := Lib.hid (show (el == 0) = false by rw [beq_eq_false_iff_ne]; omega)
       clear hb3
       go_wp2_with fail
       go_meet
       exact ⟨by rw [HPE.out, hb1, HB2'.out, HB3'.out]; rfl, rfl⟩
     ·have b2 : ((nl : Int) == 0) = false := by rw [beq_eq_false_iff_ne]; omega
      have HB2' := Lib.hid (show (nl == 0) = false by rw [beq_eq_false_iff_ne]; omega)
      clear hb2
      go_wp2_with fail
      go_meet
      exact ⟨by rw [HPE.out, hb1, HB2'.out]; rfl, rfl⟩
   case rest =>
    obtain ⟨rfl, hwc⟩ := hcut
    subst hwc
    by_cases hk1 : kd = 1
    ·subst hk1
     cases hpl : Sx.plain t with
     | true =>
      by_cases hc : k = 0
      ·have bhc : ((k : Int) == 0) = true := by rw [beq_iff_eq]; omega
       have Hhc := Lib.hid (show (t.parts.length == 0) = true by have := HK.out; have := HNL.out; have := HEL.out; rw [beq_iff_eq]; omega)
       clear hc
       have HS := Lib.hid (show Sx.shape NM 1 t.name t.names t.embeds t.parts = true by rw [Sx.shape1, hpl, Hhc.out]; rfl)
       go_wp2_with fail
       go_ret
       refine ⟨?_, HWR.out⟩
       rw [HRT.out, HKD.out, HS.out]
       try rfl
      ·have bhc : ((k : Int) == 0) = false := by rw [beq_eq_false_iff_ne]; omega
       have Hhc := Lib.hid (show (t.parts.length == 0) = false by have := HK.out; have := HNL.out; have := HEL.out; rw [beq_eq_false_iff_ne]; omega)
       clear hc
       have HS := Lib.hid (show Sx.shape NM 1 t.name t.names t.embeds t.parts = false by rw [Sx.shape1, hpl, Hhc.out]; rfl)
       go_wp2_with fail
       go_ret
       refine ⟨?_, HWR.out⟩
       rw [HRT.out, HKD.out, HS.out]
       try rfl
     | false =>
      have HS := Lib.hid (show Sx.shape NM 1 t.name t.names t.embeds t.parts = false by rw [Sx.shape1, hpl]; rfl)
      go_wp2_with fail
      go_ret
      refine ⟨?_, HWR.out⟩
      rw [HRT.out, HKD.out, HS.out]
      try rfl
    by_cases hk2 : kd = 2
    ·subst hk2
     cases hpl : Sx.plain t with
     | true =>
      by_cases hc : k = 0
      ·have bhc : ((k : Int) == 0) = true := by rw [beq_iff_eq]; omega
       have Hhc := Lib.hid (show (t.parts.length == 0) = true by have := HK.out; have := HNL.out; have := HEL.out; rw [beq_iff_eq]; omega)
       clear hc
       have HS := Lib.hid (show Sx.shape NM 2 t.name t.names t.embeds t.parts = true by rw [Sx.shape2, hpl, Hhc.out]; rfl)
       go_wp2_with fail
       go_ret
       refine ⟨?_, HWR.out⟩
       rw [HRT.out, HKD.out, HS.out]
       try rfl
      ·have bhc : ((k : Int) == 0) = false := by rw [beq_eq_false_iff_ne]; omega
       have Hhc := Lib.hid (show (t.parts.length == 0) = false by have := HK.out; have := HNL.out; have := HEL.out; rw [beq_eq_false_iff_ne]; omega)
       clear hc
       have HS := Lib.hid (show Sx.shape NM 2 t.name t.names t.embeds t.parts = false by rw [Sx.shape2, hpl, Hhc.out]; rfl)
       go_wp2_with fail
       go_ret
       refine ⟨?_, HWR.out⟩
       rw [HRT.out, HKD.out, HS.out]
       try rfl
     | false =>
      have HS := Lib.hid (show Sx.shape NM 2 t.name t.names t.embeds t.parts = false by rw [Sx.shape2, hpl]; rfl)
      go_wp2_with fail
      go_ret
      refine ⟨?_, HWR.out⟩
      rw [HRT.out, HKD.out, HS.out]
      try rfl
    by_cases hk3 : kd = 3
    ·subst hk3
     cases hpl : Sx.plain t with
     | true =>
      by_cases hc : k = 0
      ·have bhc : ((k : Int) == 0) = true := by rw [beq_iff_eq]; omega
       have Hhc := Lib.hid (show (t.parts.length == 0) = true by have := HK.out; have := HNL.out; have := HEL.out; rw [beq_iff_eq]; omega)
       clear hc
       have HS := Lib.hid (show Sx.shape NM 3 t.name t.names t.embeds t.parts = true by rw [Sx.shape3, hpl, Hhc.out]; rfl)
       go_wp2_with fail
       go_ret
       refine ⟨?_, HWR.out⟩
       rw [HRT.out, HKD.out, HS.out]
       try rfl
      ·have bhc : ((k : Int) == 0) = false := by rw [beq_eq_false_iff_ne]; omega
       have Hhc := Lib.hid (show (t.parts.length == 0) = false by have := HK.out; have := HNL.out; have := HEL.out; rw [beq_eq_false_iff_ne]; omega)
       clear hc
       have HS := Lib.hid (show Sx.shape NM 3 t.name t.names t.embeds t.parts = false by rw [Sx.shape3, hpl, Hhc.out]; rfl)
       go_wp2_with fail
       go_ret
       refine ⟨?_, HWR.out⟩
       rw [HRT.out, HKD.out, HS.out]
       try rfl
     | false =>
      have HS := Lib.hid (show Sx.shape NM 3 t.name t.names t.embeds t.parts = false by rw [Sx.shape3, hpl]; rfl)
      go_wp2_with fail
      go_ret
      refine ⟨?_, HWR.out⟩
      rw [HRT.out, HKD.out, HS.out]
      try rfl
    by_cases hk5 : kd = 5
    ·subst hk5
     cases hpl : Sx.plain t with
     | true =>
      by_cases hc : k = 1
      ·have bhc : ((k : Int) == 1) = true := by rw [beq_iff_eq]; omega
       have Hhc := Lib.hid (show (t.parts.length == 1) = true by have := HK.out; have := HNL.out; have := HEL.out; rw [beq_iff_eq]; omega)
       clear hc
       have HS := Lib.hid (show Sx.shape NM 5 t.name t.names t.embeds t.parts = true by rw [Sx.shape5, hpl, Hhc.out]; rfl)
       go_wp2_with fail
       go_ret
       refine ⟨?_, HWR.out⟩
       rw [HRT.out, HKD.out, HS.out]
       try rfl
      ·have bhc : ((k : Int) == 1) = false := by rw [beq_eq_false_iff_ne]; omega
       have Hhc := Lib.hid (show (t.parts.length == 1) = false by have := HK.out; have := HNL.out; have := HEL.out; rw [beq_eq_false_iff_ne]; omega)
       clear hc
       have HS := Lib.hid (show Sx.shape NM 5 t.name t.names t.embeds t.parts = false by rw [Sx.shape5, hpl, Hhc.out]; rfl)
       go_wp2_with fail
       go_ret
       refine ⟨?_, HWR.out⟩
       rw [HRT.out, HKD.out, HS.out]
       try rfl
     | false =>
      have HS := Lib.hid (show Sx.shape NM 5 t.name t.names t.embeds t.parts = false by rw [Sx.shape5, hpl]; rfl)
      go_wp2_with fail
      go_ret
      refine ⟨?_, HWR.out⟩
      rw [HRT.out, HKD.out, HS.out]
      try rfl
    by_cases hk7 : kd = 7
    ·subst hk7
     cases hpl : Sx.plain t with
     | true =>
      by_cases hc : 1 ≤ k
      ·have bhc : (0 : Int) < (k : Int) := by omega
       have Hhc := Lib.hid (show decide (1 ≤ t.parts.length) = true by have := HK.out; rw [decide_eq_true_eq]; omega)
       clear hc
       have HS := Lib.hid (show Sx.shape NM 7 t.name t.names t.embeds t.parts = true by rw [Sx.shape7, hpl, Hhc.out]; rfl)
       go_wp2_with fail
       go_ret
       refine ⟨?_, HWR.out⟩
       rw [HRT.out, HKD.out, HS.out]
       show Ending.returned (Value.bool (decide (0 < k))) = _
       rw [decide_eq_true (show 0 < k by omega)]
      ·have bhc : ¬ (0 : Int) < (k : Int) := by omega
       have Hhc := Lib.hid (show decide (1 ≤ t.parts.length) = false by have := HK.out; rw [decide_eq_false_iff_not]; omega)
       have hkz : k = 0 := by omega
       clear hc
       subst hkz
       have HS := Lib.hid (show Sx.shape NM 7 t.name t.names t.embeds t.parts = false by rw [Sx.shape7, hpl, Hhc.out]; rfl)
       go_wp2_with fail
       go_ret
       refine ⟨?_, HWR.out⟩
       rw [HRT.out, HKD.out, HS.out]
       try rfl
     | false =>
      have HS := Lib.hid (show Sx.shape NM 7 t.name t.names t.embeds t.parts = false by rw [Sx.shape7, hpl]; rfl)
      go_wp2_with fail
      go_ret
      refine ⟨?_, HWR.out⟩
      rw [HRT.out, HKD.out, HS.out]
      try rfl
    by_cases hk4 : kd = 4
    ·subst hk4
     have HGR := Lib.hid (zkxZ HWR.out.self nm hnml)
     cases hg : NM.great nm with
     | true =>
      rw [hg] at HGR
      by_cases hz : nl = 0 ∧ el = 0 ∧ k = 0
      ·obtain ⟨rfl, rfl, rfl⟩ := hz
       have HS := Lib.hid (show Sx.shape NM 4 t.name t.names t.embeds t.parts = true by rw [Sx.shape4, HNMM.out, hg, HNL.out, HEL.out, HK.out]; rfl)
       go_wp2_with (go_at_call 67; refine HGR.out.mono ?_; rintro e w5 ⟨rfl, hw5⟩; have hb6 := (hw5.b.block L hlr).trans HBX3.out; obtain ⟨x0, x1, x2, x3, x4⟩ := zcZ hb6; have hl6 := zaZ hb6)
       go_ret
       refine ⟨?_, HWR.out.trans hw5⟩
       rw [HRT.out, HKD.out, HS.out]
       try rfl
      ·have bz : ((nl : Int) + (el : Int) + (k : Int) == 0) = false := by rw [beq_eq_false_iff_ne]; omega
       have hz2 : ((nl == 0) && ((el == 0) && (k == 0))) = false := by
        cases h1 : (nl == 0) <;> cases h2 : (el == 0) <;> cases h3 : (k == 0) <;> simp_all
       have HS := Lib.hid (show Sx.shape NM 4 t.name t.names t.embeds t.parts = false by rw [Sx.shape4, HNMM.out, hg, HNL.out, HEL.out, HK.out, hz2]; rfl)
       go_wp2_with (go_at_call 67; refine HGR.out.mono ?_; rintro e w5 ⟨rfl, hw5⟩; have hb6 := (hw5.b.block L hlr).trans HBX3.out; obtain ⟨x0, x1, x2, x3, x4⟩ := zcZ hb6; have hl6 := zaZ hb6)
       go_ret
       refine ⟨?_, HWR.out.trans hw5⟩
       rw [HRT.out, HKD.out, HS.out]
       try rfl
     | false =>
      rw [hg] at HGR
      have HS := Lib.hid (show Sx.shape NM 4 t.name t.names t.embeds t.parts = false by rw [Sx.shape4, HNMM.out, hg]; rfl)
      go_wp2_with (go_at_call 67; refine HGR.out.mono ?_; rintro e w5 ⟨rfl, hw5⟩; have hb6 := (hw5.b.block L hlr).trans HBX3.out; obtain ⟨x0, x1, x2, x3, x4⟩ := zcZ hb6; have hl6 := zaZ hb6)
      go_ret
      refine ⟨?_, HWR.out.trans hw5⟩
      rw [HRT.out, HKD.out, HS.out]
      try rfl
    by_cases hk6 : kd = 6
    ·subst hk6
     have HUN := Lib.hid ((zhqZ HWR.out t.names (.slice An nl cn) (HNM.out.below HWR.out.b) (by have := HNL.out; omega) HNML.out).mono fun e w' h => (show e = .returned (.bool (Sx.apart NM t.names)) ∧ LW W w' from ⟨h.1, HWR.out.trans h.2⟩))
     cases hn : nm.isEmpty with
     | true =>
      by_cases h1 : nl = k
      ·have bh1 : ((nl : Int) == (k : Int)) = true := by rw [beq_iff_eq]; omega
       have Hh1 := Lib.hid (show (t.names.length == t.parts.length) = true by have := HK.out; have := HNL.out; have := HEL.out; rw [beq_iff_eq]; omega)
       clear h1
       by_cases h2 : el = k
       ·have bh2 : ((el : Int) == (k : Int)) = true := by rw [beq_iff_eq]; omega
        have Hh2 := Lib.hid (show (t.embeds.length == t.parts.length) = true by have := HK.out; have := HNL.out; have := HEL.out; rw [beq_iff_eq]; omega)
        clear h2
        cases hu : Sx.apart NM t.names with
        | true =>
         rw [hu] at HUN
         have HS := Lib.hid (show Sx.shape NM 6 t.name t.names t.embeds t.parts = true by have e1 := Hh1.out; have e2 := Hh2.out; rw [Sx.shape6, HNMM.out, hn, hu, show (t.embeds.length == t.names.length) = true by (rw [beq_iff_eq] at e1 e2 ⊢; omega), show (t.parts.length == t.names.length) = true by (rw [beq_iff_eq] at e1 ⊢; omega)]; rfl)
         go_wp2_with (go_at_call 68; refine HUN.out.mono ?_; rintro e w5 ⟨rfl, hw5⟩)
         go_ret
         refine ⟨?_, hw5⟩
         rw [HRT.out, HKD.out, HS.out]
         try rfl
        | false =>
         rw [hu] at HUN
         have HS := Lib.hid (show Sx.shape NM 6 t.name t.names t.embeds t.parts = false by rw [Sx.shape6, hu]; simp)
         go_wp2_with (go_at_call 68; refine HUN.out.mono ?_; rintro e w5 ⟨rfl, hw5⟩)
         go_ret
         refine ⟨?_, hw5⟩
         rw [HRT.out, HKD.out, HS.out]
         try rfl
       ·have bh2 : ((el : Int) == (k : Int)) = false := by rw [beq_eq_false_iff_ne]; omega
        have Hh2 := Lib.hid (show (t.embeds.length == t.parts.length) = false by have := HK.out; have := HNL.out; have := HEL.out; rw [beq_eq_false_iff_ne]; omega)
        clear h2
        have HS := Lib.hid (show Sx.shape NM 6 t.name t.names t.embeds t.parts = false by have e1 := Hh1.out; have e2 := Hh2.out; rw [Sx.shape6, HNMM.out, hn, show (t.embeds.length == t.names.length) = false by (rw [beq_iff_eq] at e1; rw [beq_eq_false_iff_ne] at e2 ⊢; omega)]; rfl)
        go_wp2_with fail
        go_ret
        refine ⟨?_, HWR.out⟩
        rw [HRT.out, HKD.out, HS.out]
        try rfl
      ·have bh1 : ((nl : Int) == (k : Int)) = false := by rw [beq_eq_false_iff_ne]; omega
       have Hh1 := Lib.hid (show (t.names.length == t.parts.length) = false by have := HK.out; have := HNL.out; have := HEL.out; rw [beq_eq_false_iff_ne]; omega)
       clear h1
       have HS := Lib.hid (show Sx.shape NM 6 t.name t.names t.embeds t.parts = false by have e1 := Hh1.out; rw [Sx.shape6, HNMM.out, hn, show (t.parts.length == t.names.length) = false by (rw [beq_eq_false_iff_ne] at e1 ⊢; omega)]; simp)
       go_wp2_with fail
       go_ret
       refine ⟨?_, HWR.out⟩
       rw [HRT.out, HKD.out, HS.out]
       try rfl
     | false =>
      have HS := Lib.hid (show Sx.shape NM 6 t.name t.names t.embeds t.parts = false by rw [Sx.shape6, HNMM.out, hn]; rfl)
      go_wp2_with fail
      go_ret
      refine ⟨?_, HWR.out⟩
      rw [HRT.out, HKD.out, HS.out]
      try rfl
    by_cases hk8 : kd = 8
    ·subst hk8
     go_wp2_with fail
     go_loopg [7] k (fun i v wq => ∃ (m : Nat), i = k - m ∧ v = .int .i64 (m : Int) ∧ m ≤ k ∧ wq = wc ∧ (∀ p ∈ t.parts.take m, p.kind = 7))
     case atStart => exact ⟨0, rfl, rfl, Nat.zero_le _, rfl, by simp⟩
     case round =>
      obtain ⟨m2, hi2, rfl, hm2, rfl, hr2⟩ := hrel
      have HI2 := Lib.hid hi2
      have HR2 := Lib.hid hr2
      have m20 : (0 : Int) ≤ (m2 : Int) := by omega
      clear hi2 hr2
      by_cases hlt2 : m2 < k
      ·have hmi2 : (m2 : Int) < (k : Int) := by omega
       have hmp2 : m2 < t.parts.length := by have := HK.out; omega
       obtain ⟨g, off, An1, cn1, Ae1, ce1, Aq, cq, rfl, hty, hc5⟩ := HP.out.spot m2 hmp2
       obtain ⟨hg, c0, c1, c2, c3, c4⟩ := hc5 wr HWR.out.b
       have htk := List.take_succ_eq_append_getElem hmp2
       obtain ⟨p, hpe⟩ : ∃ p, t.parts[m2]'hmp2 = p := ⟨_, rfl⟩
       have hmem : p ∈ t.parts := by rw [← hpe]; exact List.getElem_mem hmp2
       rw [hpe] at c0 c1 c2 c3 c4 htk
       obtain ⟨kp, hkp⟩ : ∃ kp, p.kind = kp := ⟨_, rfl⟩
       rw [hkp] at c0
       have HMEM := Lib.hid hmem
       have HTK := Lib.hid htk
       have HKP := Lib.hid hkp
       clear hty hc5 hpe hmem htk hkp
       by_cases h7 : kp = 7
       ·have b7 : (kp != 7) = false := by simp [h7]
        have H7 := Lib.hid h7
        clear h7
        go_wp2_with fail
        go_roundg (k - (m2 + 1))
        case measure => have := HI2.out; omega
        case rel =>
         refine ⟨m2 + 1, rfl, by simp, hlt2, rfl, ?_⟩
         rw [HTK.out]
         intro q hq
         rcases List.mem_append.1 hq with h | h
         ·exact HR2.out q h
         ·rw [List.mem_singleton] at h; rw [h, HKP.out, H7.out]
       ·have b7 : (kp != 7) = true := by simp [h7]
        have HS := Lib.hid (show Sx.shape NM 8 t.name t.names t.embeds t.parts = false by
         rw [Sx.shape8]
         have : (t.parts.all fun p => p.kind == 7) = false := by
          rw [List.all_eq_false]
          exact ⟨p, HMEM.out, by simp [HKP.out, h7]⟩
         rw [this]; rfl)
        clear h7
        go_wp2_with fail
        go_ret
        refine ⟨?_, HWR.out⟩
        rw [HRT.out, HKD.out, HS.out]
        try rfl
      ·have hmi2 : ¬ (m2 : Int) < (k : Int) := by omega
       have HALL := Lib.hid (show (t.parts.all fun p => p.kind == 7) = true by
        rw [List.all_eq_true]
        intro p hp
        have := HR2.out p (by rw [List.take_of_length_le (by have := HK.out; omega)]; exact hp)
        simp [this])
       have HUN := Lib.hid ((zhqZ HWR.out t.names (.slice An nl cn) (HNM.out.below HWR.out.b) (by have := HNL.out; omega) HNML.out).mono fun e w' h => (show e = .returned (.bool (Sx.apart NM t.names)) ∧ LW W w' from ⟨h.1, HWR.out.trans h.2⟩))
       cases hn : nm.isEmpty with
       | true =>
        by_cases h1 : nl = k
        ·have bh1 : ((nl : Int) == (k : Int)) = true := by rw [beq_iff_eq]; omega
         have Hh1 := Lib.hid (show (t.names.length == t.parts.length) = true by have := HK.out; have := HNL.out; have := HEL.out; rw [beq_iff_eq]; omega)
         clear h1
         by_cases h2 : el = 0
         ·have bh2 : ((el : Int) == 0) = true := by rw [beq_iff_eq]; omega
          have Hh2 := Lib.hid (show (t.embeds.length == 0) = true by have := HK.out; have := HNL.out; have := HEL.out; rw [beq_iff_eq]; omega)
          clear h2
          cases hu : Sx.apart NM t.names with
          | true =>
           rw [hu] at HUN
           have HS := Lib.hid (show Sx.shape NM 8 t.name t.names t.embeds t.parts = true by have e1 := Hh1.out; rw [Sx.shape8, HALL.out, HNMM.out, hn, hu, Hh2.out, show (t.parts.length == t.names.length) = true by (rw [beq_iff_eq] at e1 ⊢; omega)]; rfl)
           go_wp2_with (go_at_call 68; refine HUN.out.mono ?_; rintro e w5 ⟨rfl, hw5⟩)
           go_ret
           refine ⟨?_, hw5⟩
           rw [HRT.out, HKD.out, HS.out]
           try rfl
          | false =>
           rw [hu] at HUN
           have HS := Lib.hid (show Sx.shape NM 8 t.name t.names t.embeds t.parts = false by rw [Sx.shape8, hu]; simp)
           go_wp2_with (go_at_call 68; refine HUN.out.mono ?_; rintro e w5 ⟨rfl, hw5⟩)
           go_ret
           refine ⟨?_, hw5⟩
           rw [HRT.out, HKD.out, HS.out]
           try rfl
         ·have bh2 : ((el : Int) == 0) = false := by rw [beq_eq_false_iff_ne]; omega
          have Hh2 := Lib.hid (show (t.embeds.length == 0) = false by have := HK.out; have := HNL.out; have := HEL.out; rw [beq_eq_false_iff_ne]; omega)
          clear h2
          have HS := Lib.hid (show Sx.shape NM 8 t.name t.names t.embeds t.parts = false by rw [Sx.shape8, HALL.out, HNMM.out, hn, Hh2.out]; rfl)
          go_wp2_with fail
          go_ret
          refine ⟨?_, HWR.out⟩
          rw [HRT.out, HKD.out, HS.out]
          try rfl
        ·have bh1 : ((nl : Int) == (k : Int)) = false := by rw [beq_eq_false_iff_ne]; omega
         have Hh1 := Lib.hid (show (t.names.length == t.parts.length) = false by have := HK.out; have := HNL.out; have := HEL.out; rw [beq_eq_false_iff_ne]; omega)
         clear h1
         have HS := Lib.hid (show Sx.shape NM 8 t.name t.names t.embeds t.parts = false by have e1 := Hh1.out; rw [Sx.shape8, show (t.parts.length == t.names.length) = false by (rw [beq_eq_false_iff_ne] at e1 ⊢; omega)]; simp)
         go_wp2_with fail
         go_ret
         refine ⟨?_, HWR.out⟩
         rw [HRT.out, HKD.out, HS.out]
         try rfl
       | false =>
        have HS := Lib.hid (show Sx.shape NM 8 t.name t.names t.embeds t.parts = false by rw [Sx.shape8, HALL.out, HNMM.out, hn]; rfl)
        go_wp2_with fail
        go_ret
        refine ⟨?_, HWR.out⟩
        rw [HRT.out, HKD.out, HS.out]
        try rfl
    have e1 : (kd == 1) = false := by simp [hk1]
    have e2 : (kd == 2) = false := by simp [hk2]
    have e3 : (kd == 3) = false := by simp [hk3]
    have e4 : (kd == 4) = false := by simp [hk4]
    have e5 : (kd == 5) = false := by simp [hk5]
    have e6 : (kd == 6) = false := by simp [hk6]
    have e7 : (kd == 7) = false := by simp [hk7]
    have e8 : (kd == 8) = false := by simp [hk8]
    have HS := Lib.hid (show Sx.shape NM kd t.name t.names t.embeds t.parts = false by unfold Sx.shape; rw [if_neg (by omega), if_neg hk4, if_neg hk5, if_neg hk7, if_neg hk6, if_neg hk8])
    clear hk1 hk2 hk3 hk4 hk5 hk6 hk7 hk8
    go_wp2_with fail
    go_ret
    refine ⟨?_, HWR.out⟩
    rw [HRT.out, HKD.out, HS.out]
    try rfl
theorem zhrZ : ∀ (d : Nat), d ≤ 64 → RRightOk d
 | 0, _ => zkyZ
 | d + 1, h => zkzZ d h (zhrZ d (by omega))
end Go.Proofs.YtdncljdfmdgdaaaGreatDoor
