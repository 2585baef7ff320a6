/-
  The walk of rightType.
-/
/-
 The walk of rightType.
 The walk of syntax.Type.
 What lives through a writer's calls; the level, the sign, the part of an expression, plain.
 Plain: the shape that a kind of expressions asks for, by the program's table.
-/
import Derived.Test.YtdncljdfmdgdaaaGreatDoorM14
import Derived.Test.YtdncljdfmdgdaaaGreatDoorM11
namespace Go.Proofs.YtdncljdfmdgdaaaGreatDoor
open Go.RowKit Go.Shelf Go.WideMaps
set_option linter.unusedSimpArgs false
set_option linter.unusedVariables false
theorem Sx.right_zero (N : Sx.Names) (t : Sx.Ty) : Sx.rightT N 0 t = false := by cases t; simp [Sx.rightT]
def Sx.plain (t : Sx.Ty) : Bool := t.name.isEmpty && (t.names.isEmpty && t.embeds.isEmpty)
theorem Sx.right_eq (N : Sx.Names) (d : Nat) (t : Sx.Ty) : Sx.rightT N (d + 1) t = (Sx.rightTs N d t.parts && Sx.shape N t.kind t.name t.names t.embeds t.parts) := by cases t; rw [Sx.rightT]; rfl
theorem Sx.rights_all (N : Sx.Names) (d : Nat) : ∀ {l : List Sx.Ty}, (∀ p ∈ l, Sx.rightT N d p = true) → Sx.rightTs N d l = true
 | [], _ => by rw [Sx.rightTs]
 | t :: l, h => by rw [Sx.rightTs, h t (List.mem_cons_self ..), Sx.rights_all N d fun p hp => h p (List.mem_cons_of_mem _ hp)]; rfl
theorem Sx.rights_not (N : Sx.Names) (d : Nat) {l : List Sx.Ty} {p : Sx.Ty} (hp : p ∈ l) (h : Sx.rightT N d p = false) : Sx.rightTs N d l = false := by
 cases hr : Sx.rightTs N d l with
 | false => rfl
 | true => rw [Sx.rights_mem hr p hp] at h; cases h
theorem Sx.len0 {α : Type} (l : List α) : l.isEmpty = (l.length == 0) := by cases l <;> rfl
theorem Sx.shape1 {N : Sx.Names} {t : Sx.Ty} : Sx.shape N 1 t.name t.names t.embeds t.parts = (Sx.plain t && (t.parts.length == 0)) := by simp [Sx.shape, Sx.plain, Sx.len0, Bool.and_assoc]
theorem Sx.shape2 {N : Sx.Names} {t : Sx.Ty} : Sx.shape N 2 t.name t.names t.embeds t.parts = (Sx.plain t && (t.parts.length == 0)) := by simp [Sx.shape, Sx.plain, Sx.len0, Bool.and_assoc]
theorem Sx.shape3 {N : Sx.Names} {t : Sx.Ty} : Sx.shape N 3 t.name t.names t.embeds t.parts = (Sx.plain t && (t.parts.length == 0)) := by simp [Sx.shape, Sx.plain, Sx.len0, Bool.and_assoc]
theorem Sx.shape4 {N : Sx.Names} {t : Sx.Ty} : Sx.shape N 4 t.name t.names t.embeds t.parts = (N.great t.name && ((t.names.length == 0) && ((t.embeds.length == 0) && (t.parts.length == 0)))) := by simp [Sx.shape, Sx.len0, Bool.and_assoc]
theorem Sx.shape5 {N : Sx.Names} {t : Sx.Ty} : Sx.shape N 5 t.name t.names t.embeds t.parts = (Sx.plain t && (t.parts.length == 1)) := by simp [Sx.shape, Sx.plain, Sx.len0, Bool.and_assoc]
theorem Sx.shape7 {N : Sx.Names} {t : Sx.Ty} : Sx.shape N 7 t.name t.names t.embeds t.parts = (Sx.plain t && decide (1 ≤ t.parts.length)) := by simp [Sx.shape, Sx.plain, Sx.len0, Bool.and_assoc]
theorem Sx.shape6 {N : Sx.Names} {t : Sx.Ty} : Sx.shape N 6 t.name t.names t.embeds t.parts = (t.name.isEmpty && ((t.embeds.length == t.names.length) && ((t.parts.length == t.names.length) && Sx.apart N t.names))) := by simp [Sx.shape, Bool.and_assoc]
theorem Sx.shape8 {N : Sx.Names} {t : Sx.Ty} : Sx.shape N 8 t.name t.names t.embeds t.parts = ((t.parts.all fun p => p.kind == 7) && (t.name.isEmpty && ((t.embeds.length == 0) && ((t.parts.length == t.names.length) && Sx.apart N t.names)))) := by simp [Sx.shape, Sx.len0, Bool.and_assoc]
def RightOk (d : Nat) : Prop := ∀ (t : Sx.Ty) (v : Value) (W : World), GS W → NG ≤ W.heap.size → IsTy W v t → Sx.size t ≤ 1000000 →
 Calls Tryz.prog 58 #[v, .int .i64 (d : Nat)] W fun e W' => e = .returned (.bool (Sx.rightT NM d t)) ∧ Below W.heap.size W W'
set_option maxRecDepth 100000 in
theorem zjjZ : RightOk 0 := by
 intro t v W hG hN ht hsz
 obtain ⟨An, cn, Ae, ce, Ap, cp, rfl, -, -, -⟩ := ht.agg
 go_enter Tryz.func58, Tryz.ntmps58
 go_wp2_with fail
 go_ret
 rw [Sx.right_zero]
 exact ⟨rfl, zdZ (World.grownBy_alloc W _ _)⟩
set_option maxRecDepth 100000 in
set_option maxHeartbeats 16000000 in
theorem zjkZ (d : Nat) (hd : d + 1 ≤ 64) (ih : RightOk d) : RightOk (d + 1) := by
 intro t v W hG hN ht hsz
 obtain ⟨An, cn, Ae, ce, Ap, cp, rfl, hnm, hem, hp⟩ := ht.agg
 obtain ⟨e, he⟩ : ∃ e : Int, ((d + 1 : Nat) : Int) = e := ⟨_, rfl⟩
 have he0 : (e == 0) = false := by rw [beq_eq_false_iff_ne]; omega
 have he1 : 1 ≤ e := by omega
 have he2 : e ≤ 64 := by omega
 have hrec : ∀ (p : Sx.Ty) (u : Value) (X : World), GS X → NG ≤ X.heap.size → IsTy X u p → Sx.size p ≤ 1000000 →
   Calls Tryz.prog 58 #[u, .int .i64 (e - 1)] X fun e X' => e = .returned (.bool (Sx.rightT NM d p)) ∧ Below X.heap.size X X' := by
  intro p u X h1 h2 h3 h4
  rw [show e - 1 = (d : Int) by omega]
  exact ih p u X h1 h2 h3 h4
 have hsp := Sx.size_parts t
 have hlen := Sx.length_size t.parts
 have HRT0 := Lib.hid (Sx.right_eq NM d t)
 obtain ⟨k, hk⟩ : ∃ k, t.parts.length = k := ⟨_, rfl⟩
 obtain ⟨kd, hkd⟩ : ∃ kd, t.kind = kd := ⟨_, rfl⟩
 have hki : (k : Int) ≤ 1000000 := by omega
 have hni : (t.names.length : Int) ≤ 1000000 := by omega
 have hei : (t.embeds.length : Int) ≤ 1000000 := by omega
 have hk0 : (0 : Int) ≤ (k : Int) := by omega
 have hn0 : (0 : Int) ≤ (t.names.length : Int) := by omega
 have hem0 : (0 : Int) ≤ (t.embeds.length : Int) := by omega
 rw [he, hk, hkd]
 rw [hk] at hp
 have HK := Lib.hid hk
 have HKD := Lib.hid hkd
 have HREC := Lib.hid hrec
 have HG := Lib.hid hG
 have HSZ := Lib.hid (show Sx.size t ≤ 1000000 ∧ t.name.length + t.names.length ≤ 1000000 by omega)
 have HSP := Lib.hid hsp
 have HP := Lib.hid hp
 have HNM := Lib.hid hnm
 have HHE := Lib.hid he
 obtain ⟨L, hL⟩ : ∃ L, W.heap.size = L := ⟨_, rfl⟩
 have hNL : NG ≤ L := by omega
 obtain ⟨w2, hw2⟩ : ∃ w2, W.alloc (.cells #[.int .i64 kd, .string ⟨t.name.toArray⟩, .slice An t.names.length cn, .slice Ae t.embeds.length ce, .slice Ap k cp] 26) = w2 := ⟨_, rfl⟩
 have hbox : w2.heap[L]? = some (.cells #[.int .i64 kd, .string ⟨t.name.toArray⟩, .slice An t.names.length cn, .slice Ae t.embeds.length ce, .slice Ap k cp] 26 (0, 0)) := by rw [← hw2, ← hL]; exact heap_alloc_new W _
 have hb2 : Below L W w2 := by rw [← hw2, ← hL]; exact zdZ (World.grownBy_alloc W _ none)
 have HBX := Lib.hid hbox
 have HB2 := Lib.hid hb2
 have HL := Lib.hid hL
 obtain ⟨x0, x1, x2, x3, x4⟩ := zcZ hbox
 have hl2 := zaZ hbox
 clear ih hG ht hnm hem hp he hrec hsp hlen hk hkd hbox hb2 hsz
 go_enter Tryz.func58, Tryz.ntmps58
 go_wp2_with fail
 clear x0 x1 x2 x3 x4
 go_loopg [18] k (fun i v wr => ∃ (m : Nat), i = k - m ∧ v = .int .i64 (m : Int) ∧ m ≤ k ∧ Below L W wr ∧ wr.heap[L]? = w2.heap[L]? ∧ (∀ p ∈ t.parts.take m, Sx.rightT NM d p = true))
 case atStart => exact ⟨0, rfl, rfl, Nat.zero_le _, HB2.out, rfl, by simp⟩
 case round =>
  obtain ⟨m, hi, rfl, hm, hwr, hbr, hall⟩ := hrel
  rw [HBX.out] at hbr
  obtain ⟨x0, x1, x2, x3, x4⟩ := zcZ hbr
  have hlr := zaZ hbr
  have hLs : L ≤ wr.heap.size := by have := hwr.size; have := HL.out; omega
  have HI := Lib.hid hi
  have HWR := Lib.hid hwr
  have HBX3 := Lib.hid hbr
  have HALL0 := Lib.hid hall
  have m0 : (0 : Int) ≤ (m : Int) := by omega
  clear hi hwr hbr hall
  by_cases hlt : m < k
  ·have hmi : (m : Int) < (k : Int) := by omega
   have hmp : m < t.parts.length := by have := HK.out; omega
   obtain ⟨g, off, An1, cn1, Ae1, ce1, Aq, cq, rfl, hty, hc5⟩ := HP.out.spot m hmp
   rw [HL.out] at hc5
   obtain ⟨hg, c0, c1, c2, c3, c4⟩ := hc5 wr HWR.out
   have htk := List.take_succ_eq_append_getElem hmp
   obtain ⟨p, hpe⟩ : ∃ p, t.parts[m]'hmp = p := ⟨_, rfl⟩
   have hmem : p ∈ t.parts := by rw [← hpe]; exact List.getElem_mem hmp
   rw [hpe] at c0 c1 c2 c3 c4 htk hty
   have hps := Sx.parts_mem (l := [t]) (t := t) (by simp)
   have hpz : Sx.size p ≤ 1000000 := by have := Sx.size_mem hmem; have := HSP.out; have := HSZ.out; omega
   have HPZ := Lib.hid hpz
   have HMEM := Lib.hid hmem
   have HTK := Lib.hid htk
   have HTY := Lib.hid hty
   obtain ⟨w4, hw4⟩ : ∃ w4, wr.alloc (.cells #[.int .i64 p.kind, .string ⟨p.name.toArray⟩, .slice An1 p.names.length cn1, .slice Ae1 p.embeds.length ce1, .slice Aq p.parts.length cq] 26) = w4 := ⟨_, rfl⟩
   have hbox4 : w4.heap[wr.heap.size]? = some (.cells #[.int .i64 p.kind, .string ⟨p.name.toArray⟩, .slice An1 p.names.length cn1, .slice Ae1 p.embeds.length ce1, .slice Aq p.parts.length cq] 26 (0, 0)) := by rw [← hw4]; exact heap_alloc_new wr _
   have hb4 : Below wr.heap.size wr w4 := by rw [← hw4]; exact zdZ (World.grownBy_alloc wr _ none)
   have hl4 := zaZ hbox4
   obtain ⟨y0, y1, y2, y3, y4⟩ := zcZ hbox4
   have hB4 : Below L W w4 := HWR.out.trans (hb4.mono hLs)
   have hr4 := HREC.out p _ w4 (HG.out.below (by rw [HL.out]; exact hB4)) (by omega) (HTY.out.below (by rw [HL.out]; exact hB4)) HPZ.out
   have HR4 := Lib.hid hr4
   have HB4 := Lib.hid hB4
   have HBL4 := Lib.hid ((hb4.block L hlr).trans HBX3.out)
   have hL4 : L < w4.heap.size := by omega
   clear hty hc5 hpe hmem htk hps hpz hr4 hB4 hb4 hbox4
   cases hpr : Sx.rightT NM d p with
   | true =>
    rw [hpr] at HR4
    have HPR := Lib.hid hpr
    clear hpr
    go_wp2_with (go_at_call 58; refine HR4.out.mono ?_; rintro e w5 ⟨rfl, hb5⟩)
    go_roundg (k - (m + 1))
    case measure => have := HI.out; omega
    case rel =>
     refine ⟨m + 1, rfl, by simp, hlt, HB4.out.trans (hb5.mono (by omega)), ?_, ?_⟩
     ·rw [HBX.out, hb5.block L hL4, HBL4.out]
     ·rw [HTK.out]
      intro q hq
      rcases List.mem_append.1 hq with h | h
      ·exact HALL0.out q h
      ·rw [List.mem_singleton] at h; rw [h]; exact HPR.out
   | false =>
    rw [hpr] at HR4
    have HF := Lib.hid (show Sx.rightT NM (d + 1) t = false by rw [HRT0.out, Sx.rights_not NM d HMEM.out hpr]; rfl)
    clear hpr
    go_wp2_with (go_at_call 58; refine HR4.out.mono ?_; rintro e w5 ⟨rfl, hb5⟩)
    go_ret
    rw [HF.out, HL.out]
    exact ⟨rfl, HB4.out.trans (hb5.mono (by omega))⟩
  ·have hmi : ¬ (m : Int) < (k : Int) := by omega
   have HRT := Lib.hid (show Sx.rightT NM (d + 1) t = Sx.shape NM t.kind t.name t.names t.embeds t.parts by
    rw [HRT0.out, Sx.rights_all NM d]
    ·rfl
    ·have h := HALL0.out
     rwa [List.take_of_length_le (by have := HK.out; omega)] at h)
   go_wp2_with fail
   go_quiet (fail)
   obtain ⟨w3, hw3⟩ : ∃ w3, wr.drewN nq = w3 := ⟨_, rfl⟩
   have hbw3 : Below L W w3 := by rw [← hw3]; exact HWR.out.trans ⟨rfl, rfl, rfl, Nat.le_refl _, fun _ _ => rfl⟩
   have hbx3 : w3.heap[L]? = wr.heap[L]? := by rw [← hw3]; rfl
   rw [HBX3.out] at hbx3
   rw [hw3]
   clear x0 x1 x2 x3 x4 HBX3 hw3
   obtain ⟨x0, x1, x2, x3, x4⟩ := zcZ hbx3
   have hl3' := zaZ hbx3
   have HBX3 := Lib.hid hbx3
   have HB3 := Lib.hid hbw3
   clear hbx3 hbw3
   go_upto_region 10 with fail
   go_cut [10] (fun v wx => v = .bool (Sx.plain t) ∧ wx = w3)
   case first =>
    have hpe : Sx.plain t = (t.name.isEmpty && ((t.names.length == 0) && (t.embeds.length == 0))) := by
     unfold Sx.plain
     cases t.names <;> cases t.embeds <;> rfl
    have HPE := Lib.hid hpe
    clear hpe
    cases hb1 : t.name.isEmpty with
    | false =>
     go_wp2_with fail
     go_meet
     exact ⟨by rw [HPE.out, hb1]; rfl, rfl⟩
    | true =>
     by_cases hb2 : t.names.length = 0
     ·have b2 : ((t.names.length : Int) == 0) = true := by rw [beq_iff_eq]; omega
      have HB2' := Lib.hid (show (t.names.length == 0) = true by rw [beq_iff_eq]; omega)
      clear hb2
      by_cases hb3 : t.embeds.length = 0
      ·have b3 : ((t.embeds.length : Int) == 0) = true := by rw [beq_iff_eq]; omega
       have HB3' := Lib.hid (show (t.embeds.length == 0) = true by rw [beq_iff_eq]; omega)
       clear hb3
       go_wp2_with fail
       go_meet
       exact ⟨by rw [HPE.out, hb1, HB2'.out, HB3'.out]; rfl, rfl⟩
      ·have b3 : ((t.embeds.length : Int) == 0) = false := by rw [beq_eq_false_iff_ne]; omega
       have HB3' := Lib.hid (show (t.embeds.length == 0) = false by rw [beq_eq_false_iff_ne]; omega)
       clear hb3
       go_wp2_with fail
       go_meet
       exact ⟨by rw [HPE.out, hb1, HB2'.out, HB3'.out]; rfl, rfl⟩
     ·have b2 : ((t.names.length : Int) == 0) = false := by rw [beq_eq_false_iff_ne]; omega
      have HB2' := Lib.hid (show (t.names.length == 0) = false by rw [beq_eq_false_iff_ne]; omega)
      clear hb2
      go_wp2_with fail
      go_meet
      exact ⟨by rw [HPE.out, hb1, HB2'.out]; rfl, rfl⟩
   case rest =>
    obtain ⟨rfl, hwc⟩ := hcut
    subst hwc
    have HSH := HRT
    by_cases hk1 : kd = 1
    ·subst hk1
     have hkk := HK.out
     cases hpl : Sx.plain t with
     | true =>
      by_cases hc : k = 0
      ·have bhc : ((k : Int) == 0) = true := by rw [beq_iff_eq]; omega
       have Hhc := Lib.hid (show (t.parts.length == 0) = true by rw [beq_iff_eq]; omega)
       clear hc
       clear hkk
       have HS := Lib.hid (show Sx.shape NM 1 t.name t.names t.embeds t.parts = true by rw [Sx.shape1, hpl, Hhc.out]; rfl)
       go_wp2_with fail
       go_ret
       refine ⟨?_, by first | exact HB3.out | (rw [HL.out]; exact HB3.out)⟩
       rw [HRT.out, HKD.out, HS.out]
       rfl
      ·have bhc : ((k : Int) == 0) = false := by rw [beq_eq_false_iff_ne]; omega
       have Hhc := Lib.hid (show (t.parts.length == 0) = false by rw [beq_eq_false_iff_ne]; omega)
       clear hc
       clear hkk
       have HS := Lib.hid (show Sx.shape NM 1 t.name t.names t.embeds t.parts = false by rw [Sx.shape1, hpl, Hhc.out]; rfl)
       go_wp2_with fail
       go_ret
       refine ⟨?_, by first | exact HB3.out | (rw [HL.out]; exact HB3.out)⟩
       rw [HRT.out, HKD.out, HS.out]
       rfl
     | false =>
      clear hkk
      have HS := Lib.hid (show Sx.shape NM 1 t.name t.names t.embeds t.parts = false by rw [Sx.shape1, hpl]; rfl)
      go_wp2_with fail
      go_ret
      refine ⟨?_, by first | exact HB3.out | (rw [HL.out]; exact HB3.out)⟩
      rw [HRT.out, HKD.out, HS.out]
      rfl
    by_cases hk2 : kd = 2
    ·subst hk2
     have hkk := HK.out
     cases hpl : Sx.plain t with
     | true =>
      by_cases hc : k = 0
      ·have bhc : ((k : Int) == 0) = true := by rw [beq_iff_eq]; omega
       have Hhc := Lib.hid (show (t.parts.length == 0) = true by rw [beq_iff_eq]; omega)
       clear hc
       clear hkk
       have HS := Lib.hid (show Sx.shape NM 2 t.name t.names t.embeds t.parts = true by rw [Sx.shape2, hpl, Hhc.out]; rfl)
       go_wp2_with fail
       go_ret
       refine ⟨?_, by first | exact HB3.out | (rw [HL.out]; exact HB3.out)⟩
       rw [HRT.out, HKD.out, HS.out]
       rfl
      ·have bhc : ((k : Int) == 0) = false := by rw [beq_eq_false_iff_ne]; omega
       have Hhc := Lib.hid (show (t.parts.length == 0) = false by rw [beq_eq_false_iff_ne]; omega)
       clear hc
       clear hkk
       have HS := Lib.hid (show Sx.shape NM 2 t.name t.names t.embeds t.parts = false by rw [Sx.shape2, hpl, Hhc.out]; rfl)
       go_wp2_with fail
       go_ret
       refine ⟨?_, by first | exact HB3.out | (rw [HL.out]; exact HB3.out)⟩
       rw [HRT.out, HKD.out, HS.out]
       rfl
     | false =>
      clear hkk
      have HS := Lib.hid (show Sx.shape NM 2 t.name t.names t.embeds t.parts = false by rw [Sx.shape2, hpl]; rfl)
      go_wp2_with fail
      go_ret
      refine ⟨?_, by first | exact HB3.out | (rw [HL.out]; exact HB3.out)⟩
      rw [HRT.out, HKD.out, HS.out]
      rfl
    by_cases hk3 : kd = 3
    ·subst hk3
     have hkk := HK.out
     cases hpl : Sx.plain t with
     | true =>
      by_cases hc : k = 0
      ·have bhc : ((k : Int) == 0) = true := by rw [beq_iff_eq]; omega
       have Hhc := Lib.hid (show (t.parts.length == 0) = true by rw [beq_iff_eq]; omega)
       clear hc
       clear hkk
       have HS := Lib.hid (show Sx.shape NM 3 t.name t.names t.embeds t.parts = true by rw [Sx.shape3, hpl, Hhc.out]; rfl)
       go_wp2_with fail
       go_ret
       refine ⟨?_, by first | exact HB3.out | (rw [HL.out]; exact HB3.out)⟩
       rw [HRT.out, HKD.out, HS.out]
       rfl
      ·have bhc : ((k : Int) == 0) = false := by rw [beq_eq_false_iff_ne]; omega
       have Hhc := Lib.hid (show (t.parts.length == 0) = false by rw [beq_eq_false_iff_ne]; omega)
       clear hc
       clear hkk
       have HS := Lib.hid (show Sx.shape NM 3 t.name t.names t.embeds t.parts = false by rw [Sx.shape3, hpl, Hhc.out]; rfl)
       go_wp2_with fail
       go_ret
       refine ⟨?_, by first | exact HB3.out | (rw [HL.out]; exact HB3.out)⟩
       rw [HRT.out, HKD.out, HS.out]
       rfl
     | false =>
      clear hkk
      have HS := Lib.hid (show Sx.shape NM 3 t.name t.names t.embeds t.parts = false by rw [Sx.shape3, hpl]; rfl)
      go_wp2_with fail
      go_ret
      refine ⟨?_, by first | exact HB3.out | (rw [HL.out]; exact HB3.out)⟩
      rw [HRT.out, HKD.out, HS.out]
      rfl
    by_cases hk5 : kd = 5
    ·subst hk5
     have hkk := HK.out
     cases hpl : Sx.plain t with
     | true =>
      by_cases hc : k = 1
      ·have bhc : ((k : Int) == 1) = true := by rw [beq_iff_eq]; omega
       have Hhc := Lib.hid (show (t.parts.length == 1) = true by rw [beq_iff_eq]; omega)
       clear hc
       clear hkk
       have HS := Lib.hid (show Sx.shape NM 5 t.name t.names t.embeds t.parts = true by rw [Sx.shape5, hpl, Hhc.out]; rfl)
       go_wp2_with fail
       go_ret
       refine ⟨?_, by first | exact HB3.out | (rw [HL.out]; exact HB3.out)⟩
       rw [HRT.out, HKD.out, HS.out]
       rfl
      ·have bhc : ((k : Int) == 1) = false := by rw [beq_eq_false_iff_ne]; omega
       have Hhc := Lib.hid (show (t.parts.length == 1) = false by rw [beq_eq_false_iff_ne]; omega)
       clear hc
       clear hkk
       have HS := Lib.hid (show Sx.shape NM 5 t.name t.names t.embeds t.parts = false by rw [Sx.shape5, hpl, Hhc.out]; rfl)
       go_wp2_with fail
       go_ret
       refine ⟨?_, by first | exact HB3.out | (rw [HL.out]; exact HB3.out)⟩
       rw [HRT.out, HKD.out, HS.out]
       rfl
     | false =>
      clear hkk
      have HS := Lib.hid (show Sx.shape NM 5 t.name t.names t.embeds t.parts = false by rw [Sx.shape5, hpl]; rfl)
      go_wp2_with fail
      go_ret
      refine ⟨?_, by first | exact HB3.out | (rw [HL.out]; exact HB3.out)⟩
      rw [HRT.out, HKD.out, HS.out]
      rfl
    by_cases hk7 : kd = 7
    ·subst hk7
     have hkk := HK.out
     cases hpl : Sx.plain t with
     | true =>
      by_cases hc : 1 ≤ k
      ·have bhc : decide ((1 : Int) ≤ (k : Int)) = true := by rw [decide_eq_true_eq]; omega
       have Hhc := Lib.hid (show decide (1 ≤ t.parts.length) = true by rw [decide_eq_true_eq]; omega)
       clear hc
       clear hkk
       have HS := Lib.hid (show Sx.shape NM 7 t.name t.names t.embeds t.parts = true by rw [Sx.shape7, hpl, Hhc.out]; rfl)
       go_wp2_with fail
       go_ret
       refine ⟨?_, by first | exact HB3.out | (rw [HL.out]; exact HB3.out)⟩
       rw [HRT.out, HKD.out, HS.out]
       rfl
      ·have bhc : decide ((1 : Int) ≤ (k : Int)) = false := by rw [decide_eq_false_iff_not]; omega
       have Hhc := Lib.hid (show decide (1 ≤ t.parts.length) = false by rw [decide_eq_false_iff_not]; omega)
       clear hc
       clear hkk
       have HS := Lib.hid (show Sx.shape NM 7 t.name t.names t.embeds t.parts = false by rw [Sx.shape7, hpl, Hhc.out]; rfl)
       go_wp2_with fail
       go_ret
       refine ⟨?_, by first | exact HB3.out | (rw [HL.out]; exact HB3.out)⟩
       rw [HRT.out, HKD.out, HS.out]
       rfl
     | false =>
      clear hkk
      have HS := Lib.hid (show Sx.shape NM 7 t.name t.names t.embeds t.parts = false by rw [Sx.shape7, hpl]; rfl)
      go_wp2_with fail
      go_ret
      refine ⟨?_, by first | exact HB3.out | (rw [HL.out]; exact HB3.out)⟩
      rw [HRT.out, HKD.out, HS.out]
      rfl
    by_cases hk4 : kd = 4
    ·subst hk4
     have hkk := HK.out
     have hWs := HB3.out.size
     have hgr := zmbZ t.name wc (HG.out.below (by rw [HL.out]; exact HB3.out)) (by omega) (by have := HSZ.out; omega)
     have HGR := Lib.hid hgr
     clear hgr
     cases hg : NM.great t.name with
     | true =>
      rw [hg] at HGR
      by_cases h1 : t.names.length = 0
      ·have bh1 : ((t.names.length : Int) == 0) = true := by rw [beq_iff_eq]; omega
       have Hh1 := Lib.hid (show (t.names.length == 0) = true by rw [beq_iff_eq]; omega)
       clear h1
       by_cases h2 : t.embeds.length = 0
       ·have bh2 : ((t.embeds.length : Int) == 0) = true := by rw [beq_iff_eq]; omega
        have Hh2 := Lib.hid (show (t.embeds.length == 0) = true by rw [beq_iff_eq]; omega)
        clear h2
        by_cases h3 : k = 0
        ·have bh3 : ((k : Int) == 0) = true := by rw [beq_iff_eq]; omega
         have Hh3 := Lib.hid (show (t.parts.length == 0) = true by rw [beq_iff_eq]; omega)
         clear h3
         clear hkk
         have HS := Lib.hid (show Sx.shape NM 4 t.name t.names t.embeds t.parts = true by rw [Sx.shape4, hg, Hh1.out, Hh2.out, Hh3.out]; rfl)
         go_wp2_with (go_at_call 107; refine HGR.out.mono ?_; rintro e w5 ⟨rfl, hb5⟩)
         go_ret
         refine ⟨?_, by first | exact HB3.out.trans (hb5.mono (by omega)) | (rw [HL.out]; exact HB3.out.trans (hb5.mono (by omega)))⟩
         rw [HRT.out, HKD.out, HS.out]
         rfl
        ·have bh3 : ((k : Int) == 0) = false := by rw [beq_eq_false_iff_ne]; omega
         have Hh3 := Lib.hid (show (t.parts.length == 0) = false by rw [beq_eq_false_iff_ne]; omega)
         clear h3
         clear hkk
         have HS := Lib.hid (show Sx.shape NM 4 t.name t.names t.embeds t.parts = false by rw [Sx.shape4, hg, Hh1.out, Hh2.out, Hh3.out]; rfl)
         go_wp2_with (go_at_call 107; refine HGR.out.mono ?_; rintro e w5 ⟨rfl, hb5⟩)
         go_ret
         refine ⟨?_, by first | exact HB3.out.trans (hb5.mono (by omega)) | (rw [HL.out]; exact HB3.out.trans (hb5.mono (by omega)))⟩
         rw [HRT.out, HKD.out, HS.out]
         rfl
       ·have bh2 : ((t.embeds.length : Int) == 0) = false := by rw [beq_eq_false_iff_ne]; omega
        have Hh2 := Lib.hid (show (t.embeds.length == 0) = false by rw [beq_eq_false_iff_ne]; omega)
        clear h2
        clear hkk
        have HS := Lib.hid (show Sx.shape NM 4 t.name t.names t.embeds t.parts = false by rw [Sx.shape4, hg, Hh1.out, Hh2.out]; rfl)
        go_wp2_with (go_at_call 107; refine HGR.out.mono ?_; rintro e w5 ⟨rfl, hb5⟩)
        go_ret
        refine ⟨?_, by first | exact HB3.out.trans (hb5.mono (by omega)) | (rw [HL.out]; exact HB3.out.trans (hb5.mono (by omega)))⟩
        rw [HRT.out, HKD.out, HS.out]
        rfl
      ·have bh1 : ((t.names.length : Int) == 0) = false := by rw [beq_eq_false_iff_ne]; omega
       have Hh1 := Lib.hid (show (t.names.length == 0) = false by rw [beq_eq_false_iff_ne]; omega)
       clear h1
       clear hkk
       have HS := Lib.hid (show Sx.shape NM 4 t.name t.names t.embeds t.parts = false by rw [Sx.shape4, hg, Hh1.out]; rfl)
       go_wp2_with (go_at_call 107; refine HGR.out.mono ?_; rintro e w5 ⟨rfl, hb5⟩)
       go_ret
       refine ⟨?_, by first | exact HB3.out.trans (hb5.mono (by omega)) | (rw [HL.out]; exact HB3.out.trans (hb5.mono (by omega)))⟩
       rw [HRT.out, HKD.out, HS.out]
       rfl
     | false =>
      rw [hg] at HGR
      clear hkk
      have HS := Lib.hid (show Sx.shape NM 4 t.name t.names t.embeds t.parts = false by rw [Sx.shape4, hg]; rfl)
      go_wp2_with (go_at_call 107; refine HGR.out.mono ?_; rintro e w5 ⟨rfl, hb5⟩)
      go_ret
      refine ⟨?_, by first | exact HB3.out.trans (hb5.mono (by omega)) | (rw [HL.out]; exact HB3.out.trans (hb5.mono (by omega)))⟩
      rw [HRT.out, HKD.out, HS.out]
      rfl
    by_cases hk6 : kd = 6
    ·subst hk6
     have hkk := HK.out
     have hWs := HB3.out.size
     have hun := zdpZ t.names (.slice An t.names.length cn) wc (HG.out.below (by rw [HL.out]; exact HB3.out)) (by omega) (HNM.out.below (by rw [HL.out]; exact HB3.out)) (by have := HSZ.out; omega) (fun s hs => by have := Sx.name_len hs; have := HSZ.out.1; omega)
     have HUN := Lib.hid hun
     clear hun
     cases hn : t.name.isEmpty with
     | true =>
      by_cases h1 : t.embeds.length = t.names.length
      ·have bh1 : ((t.embeds.length : Int) == (t.names.length : Int)) = true := by rw [beq_iff_eq]; omega
       have Hh1 := Lib.hid (show (t.embeds.length == t.names.length) = true by rw [beq_iff_eq]; omega)
       clear h1
       by_cases h2 : k = t.names.length
       ·have bh2 : ((k : Int) == (t.names.length : Int)) = true := by rw [beq_iff_eq]; omega
        have Hh2 := Lib.hid (show (t.parts.length == t.names.length) = true by rw [beq_iff_eq]; omega)
        clear h2
        cases hu : Sx.apart NM t.names with
        | true =>
         rw [hu] at HUN
         clear hkk
         have HS := Lib.hid (show Sx.shape NM 6 t.name t.names t.embeds t.parts = true by rw [Sx.shape6, hn, Hh1.out, Hh2.out, hu]; rfl)
         go_wp2_with (go_at_call 108; refine HUN.out.mono ?_; rintro e w5 ⟨rfl, hb5⟩)
         go_ret
         refine ⟨?_, by first | exact HB3.out.trans (hb5.mono (by omega)) | (rw [HL.out]; exact HB3.out.trans (hb5.mono (by omega)))⟩
         rw [HRT.out, HKD.out, HS.out]
         rfl
        | false =>
         rw [hu] at HUN
         clear hkk
         have HS := Lib.hid (show Sx.shape NM 6 t.name t.names t.embeds t.parts = false by rw [Sx.shape6, hn, Hh1.out, Hh2.out, hu]; rfl)
         go_wp2_with (go_at_call 108; refine HUN.out.mono ?_; rintro e w5 ⟨rfl, hb5⟩)
         go_ret
         refine ⟨?_, by first | exact HB3.out.trans (hb5.mono (by omega)) | (rw [HL.out]; exact HB3.out.trans (hb5.mono (by omega)))⟩
         rw [HRT.out, HKD.out, HS.out]
         rfl
       ·have bh2 : ((k : Int) == (t.names.length : Int)) = false := by rw [beq_eq_false_iff_ne]; omega
        have Hh2 := Lib.hid (show (t.parts.length == t.names.length) = false by rw [beq_eq_false_iff_ne]; omega)
        clear h2
        clear hkk
        have HS := Lib.hid (show Sx.shape NM 6 t.name t.names t.embeds t.parts = false by rw [Sx.shape6, hn, Hh1.out, Hh2.out]; rfl)
        go_wp2_with fail
        go_ret
        refine ⟨?_, by first | exact HB3.out | (rw [HL.out]; exact HB3.out)⟩
        rw [HRT.out, HKD.out, HS.out]
        rfl
      ·have bh1 : ((t.embeds.length : Int) == (t.names.length : Int)) = false := by rw [beq_eq_false_iff_ne]; omega
       have Hh1 := Lib.hid (show (t.embeds.length == t.names.length) = false by rw [beq_eq_false_iff_ne]; omega)
       clear h1
       clear hkk
       have HS := Lib.hid (show Sx.shape NM 6 t.name t.names t.embeds t.parts = false by rw [Sx.shape6, hn, Hh1.out]; rfl)
       go_wp2_with fail
       go_ret
       refine ⟨?_, by first | exact HB3.out | (rw [HL.out]; exact HB3.out)⟩
       rw [HRT.out, HKD.out, HS.out]
       rfl
     | false =>
      clear hkk
      have HS := Lib.hid (show Sx.shape NM 6 t.name t.names t.embeds t.parts = false by rw [Sx.shape6, hn]; rfl)
      go_wp2_with fail
      go_ret
      refine ⟨?_, by first | exact HB3.out | (rw [HL.out]; exact HB3.out)⟩
      rw [HRT.out, HKD.out, HS.out]
      rfl
    by_cases hk8 : kd = 8
    ·subst hk8
     go_wp2_with fail
     go_loopg [115] k (fun i v wq => ∃ (m : Nat), i = k - m ∧ v = .int .i64 (m : Int) ∧ m ≤ k ∧ Below wc.heap.size wc wq ∧ (∀ p ∈ t.parts.take m, p.kind = 7))
     case atStart => exact ⟨0, rfl, rfl, Nat.zero_le _, Below.refl _ _, by simp⟩
     case round =>
      obtain ⟨m2, hi2, rfl, hm2, hbq, hr2⟩ := hrel
      have HI2 := Lib.hid hi2
      have HBQ := Lib.hid hbq
      have HR2 := Lib.hid hr2
      have m20 : (0 : Int) ≤ (m2 : Int) := by omega
      have hWs := HB3.out.size
      have hqs := hbq.size
      have HWQ := Lib.hid (show Below L W wr from HB3.out.trans (hbq.mono (by omega)))
      have HBXQ := Lib.hid ((hbq.block L hl3').trans HBX3.out)
      clear x0 x1 x2 x3 x4 hi2 hbq hr2
      obtain ⟨x0, x1, x2, x3, x4⟩ := zcZ HBXQ.out
      have hlq := zaZ HBXQ.out
      by_cases hlt2 : m2 < k
      ·have hmi2 : (m2 : Int) < (k : Int) := by omega
       have hmp2 : m2 < t.parts.length := by have := HK.out; omega
       obtain ⟨g, off, An1, cn1, Ae1, ce1, Aq, cq, rfl, hty, hc5⟩ := HP.out.spot m2 hmp2
       rw [HL.out] at hc5
       obtain ⟨hg, c0, c1, c2, c3, c4⟩ := hc5 wr HWQ.out
       have htk := List.take_succ_eq_append_getElem hmp2
       obtain ⟨p, hpe⟩ : ∃ p, t.parts[m2]'hmp2 = p := ⟨_, rfl⟩
       have hmem : p ∈ t.parts := by rw [← hpe]; exact List.getElem_mem hmp2
       rw [hpe] at c0 c1 c2 c3 c4 htk
       obtain ⟨kp, hkp⟩ : ∃ kp, p.kind = kp := ⟨_, rfl⟩
       rw [hkp] at c0
       have HMEM := Lib.hid hmem
       have HTK := Lib.hid htk
       have HKP := Lib.hid hkp
       clear hty hc5 hpe hmem htk hkp
       by_cases h7 : kp = 7
       ·have b7 : (kp != 7) = false := by simp [h7]
        have H7 := Lib.hid h7
        clear h7
        go_wp2_with fail
        go_roundg (k - (m2 + 1))
        case measure => have := HI2.out; omega
        case rel =>
         refine ⟨m2 + 1, rfl, by simp, hlt2, HBQ.out.trans (zdZ (World.grownBy_alloc wr _ none) |>.mono (by omega)), ?_⟩
         rw [HTK.out]
         intro q hq
         rcases List.mem_append.1 hq with h | h
         ·exact HR2.out q h
         ·rw [List.mem_singleton] at h; rw [h, HKP.out, H7.out]
       ·have b7 : (kp != 7) = true := by simp [h7]
        have HS := Lib.hid (show Sx.shape NM 8 t.name t.names t.embeds t.parts = false by
         rw [Sx.shape8]
         have : (t.parts.all fun p => p.kind == 7) = false := by
          rw [List.all_eq_false]
          exact ⟨p, HMEM.out, by simp [HKP.out, h7]⟩
         rw [this]; rfl)
        clear h7
        go_wp2_with fail
        go_ret
        refine ⟨?_, by first | exact HWQ.out.trans (zdZ (World.grownBy_alloc wr _ none) |>.mono (by omega)) | (rw [HL.out]; exact HWQ.out.trans (zdZ (World.grownBy_alloc wr _ none) |>.mono (by omega)))⟩
        rw [HRT.out, HKD.out, HS.out]
        rfl
      ·have hmi2 : ¬ (m2 : Int) < (k : Int) := by omega
       have HALL := Lib.hid (show (t.parts.all fun p => p.kind == 7) = true by
        rw [List.all_eq_true]
        intro p hp
        have := HR2.out p (by rw [List.take_of_length_le (by have := HK.out; omega)]; exact hp)
        simp [this])
       have hkk := HK.out
       have hun := zdpZ t.names (.slice An t.names.length cn) wr (HG.out.below (by rw [HL.out]; exact HWQ.out)) (by omega) (HNM.out.below (by rw [HL.out]; exact HWQ.out)) (by have := HSZ.out; omega) (fun s hs => by have := Sx.name_len hs; have := HSZ.out.1; omega)
       have HUN := Lib.hid hun
       clear hun
       cases hn : t.name.isEmpty with
       | true =>
        by_cases h1 : t.embeds.length = 0
        ·have bh1 : ((t.embeds.length : Int) == 0) = true := by rw [beq_iff_eq]; omega
         have Hh1 := Lib.hid (show (t.embeds.length == 0) = true by rw [beq_iff_eq]; omega)
         clear h1
         by_cases h2 : k = t.names.length
         ·have bh2 : ((k : Int) == (t.names.length : Int)) = true := by rw [beq_iff_eq]; omega
          have Hh2 := Lib.hid (show (t.parts.length == t.names.length) = true by rw [beq_iff_eq]; omega)
          clear h2
          cases hu : Sx.apart NM t.names with
          | true =>
           rw [hu] at HUN
           clear hkk
           have HS := Lib.hid (show Sx.shape NM 8 t.name t.names t.embeds t.parts = true by rw [Sx.shape8, HALL.out, hn, Hh1.out, Hh2.out, hu]; rfl)
           go_wp2_with (go_at_call 108; refine HUN.out.mono ?_; rintro e w5 ⟨rfl, hb5⟩)
           go_ret
           refine ⟨?_, by first | exact HWQ.out.trans (hb5.mono (by omega)) | (rw [HL.out]; exact HWQ.out.trans (hb5.mono (by omega)))⟩
           rw [HRT.out, HKD.out, HS.out]
           rfl
          | false =>
           rw [hu] at HUN
           clear hkk
           have HS := Lib.hid (show Sx.shape NM 8 t.name t.names t.embeds t.parts = false by rw [Sx.shape8, HALL.out, hn, Hh1.out, Hh2.out, hu]; rfl)
           go_wp2_with (go_at_call 108; refine HUN.out.mono ?_; rintro e w5 ⟨rfl, hb5⟩)
           go_ret
           refine ⟨?_, by first | exact HWQ.out.trans (hb5.mono (by omega)) | (rw [HL.out]; exact HWQ.out.trans (hb5.mono (by omega)))⟩
           rw [HRT.out, HKD.out, HS.out]
           rfl
         ·have bh2 : ((k : Int) == (t.names.length : Int)) = false := by rw [beq_eq_false_iff_ne]; omega
          have Hh2 := Lib.hid (show (t.parts.length == t.names.length) = false by rw [beq_eq_false_iff_ne]; omega)
          clear h2
          clear hkk
          have HS := Lib.hid (show Sx.shape NM 8 t.name t.names t.embeds t.parts = false by rw [Sx.shape8, HALL.out, hn, Hh1.out, Hh2.out]; rfl)
          go_wp2_with fail
          go_ret
          refine ⟨?_, by first | exact HWQ.out | (rw [HL.out]; exact HWQ.out)⟩
          rw [HRT.out, HKD.out, HS.out]
          rfl
        ·have bh1 : ((t.embeds.length : Int) == 0) = false := by rw [beq_eq_false_iff_ne]; omega
         have Hh1 := Lib.hid (show (t.embeds.length == 0) = false by rw [beq_eq_false_iff_ne]; omega)
         clear h1
         clear hkk
         have HS := Lib.hid (show Sx.shape NM 8 t.name t.names t.embeds t.parts = false by rw [Sx.shape8, HALL.out, hn, Hh1.out]; rfl)
         go_wp2_with fail
         go_ret
         refine ⟨?_, by first | exact HWQ.out | (rw [HL.out]; exact HWQ.out)⟩
         rw [HRT.out, HKD.out, HS.out]
         rfl
       | false =>
        clear hkk
        have HS := Lib.hid (show Sx.shape NM 8 t.name t.names t.embeds t.parts = false by rw [Sx.shape8, HALL.out, hn]; rfl)
        go_wp2_with fail
        go_ret
        refine ⟨?_, by first | exact HWQ.out | (rw [HL.out]; exact HWQ.out)⟩
        rw [HRT.out, HKD.out, HS.out]
        rfl
    have e1 : (kd == 1) = false := by simp [hk1]
    have e2 : (kd == 2) = false := by simp [hk2]
    have e3 : (kd == 3) = false := by simp [hk3]
    have e4 : (kd == 4) = false := by simp [hk4]
    have e5 : (kd == 5) = false := by simp [hk5]
    have e6 : (kd == 6) = false := by simp [hk6]
    have e7 : (kd == 7) = false := by simp [hk7]
    have e8 : (kd == 8) = false := by simp [hk8]
    have HS := Lib.hid (show Sx.shape NM kd t.name t.names t.embeds t.parts = false by unfold Sx.shape; rw [if_neg (by omega), if_neg hk4, if_neg hk5, if_neg hk7, if_neg hk6, if_neg hk8])
    clear hk1 hk2 hk3 hk4 hk5 hk6 hk7 hk8
    go_wp2_with fail
    go_ret
    refine ⟨?_, by first | exact HB3.out | (rw [HL.out]; exact HB3.out)⟩
    rw [HRT.out, HKD.out, HS.out]
    rfl
theorem zcuZ : ∀ d : Nat, d ≤ 64 → RightOk d
 | 0, _ => zjjZ
 | d + 1, h => zjkZ d h (zcuZ d (by omega))
end Go.Proofs.YtdncljdfmdgdaaaGreatDoor
namespace Go.Proofs.YtdncljdfmdgdaaaGreatDoor
open Go.RowKit Go.Shelf Go.WideMaps
set_option linter.unusedSimpArgs false
set_option linter.unusedVariables false
theorem nmSmall : isTok 1 [] = false := by kernel_rfl
theorem nmGreat : isTok 2 [] = false := by kernel_rfl
theorem NM.ok : Sx.NamesOk NM := ⟨fun s h e => by subst e; exact absurd (nmSmall.symm.trans h) (by simp), fun s h e => by subst e; exact absurd (nmGreat.symm.trans h) (by simp)⟩
def Sx.said (right : Bool) (l : List Lx.Bytes) : Lx.Bytes × Nat := if right then Sx.told true (Sx.puts ⟨[], 0⟩ l) else ([], 1)
theorem Wrote.fresh {W0 w : World} {b : Nat} (hB : W0.heap.size ≤ b) (hb : w.heap[b]? = some (.cells #[.pointer none, .slice none 0 0, .int .i64 0] 104 (0, 0))) (h : Below W0.heap.size W0 w) : Wrote W0 b 0 [] w :=
 ⟨⟨hB, none, .slice none 0 0, hb, .inl rfl, World.ownsRow_nil _ _ _ _, fun _ => rfl⟩, h, by simp, Nat.le_refl _⟩
theorem toldEnd {W0 w : World} {b c : Nat} {l : List Lx.Bytes} (h : Wrote W0 b c l w) (hc : c ≤ 1000000000) (r : Bool) (hr : r = false → l = []) :
  Calls Tryz.prog 60 #[.pointer (some ⟨b, 0, none⟩), .bool r] w fun e w' =>
   e = .returned (.tuple #[.string ⟨(Sx.said r l).1.toArray⟩, .int .i64 ((Sx.said r l).2 : Nat)]) ∧ Below W0.heap.size W0 w' := by
 have hcn := h.cnt
 refine (synTold W0.heap.size b (Sx.puts ⟨[], 0⟩ l) r w h.wri (Sx.puts_len l _ (by simp) h.good) (by rw [Sx.puts_n]; simp; omega)).mono ?_
 rintro e w' ⟨he, hb⟩
 refine ⟨?_, h.below.trans hb⟩
 rw [he]
 cases r with
 | true => rfl
 | false => rfl
set_option maxRecDepth 100000 in
set_option maxHeartbeats 4000000 in
theorem synType (t : Sx.Ty) (v : Value) (W : World) (hG : GS W) (hN : NG ≤ W.heap.size) (ht : IsTy W v t) (hsz : Sx.size t ≤ 1000000) :
  Calls Tryz.prog 14 #[v] W fun e W' => e = .returned (.tuple #[.string ⟨(Sx.said (Sx.rightT NM 64 t) (Sx.typ t)).1.toArray⟩, .int .i64 ((Sx.said (Sx.rightT NM 64 t) (Sx.typ t)).2 : Nat)]) ∧ Below W.heap.size W W' := by
 have hrt : ∀ X, Below W.heap.size W X → Calls Tryz.prog 58 #[v, .int .i64 64] X fun e W' => e = .returned (.bool (Sx.rightT NM 64 t)) ∧ Below X.heap.size X W' := fun X hb => zcuZ 64 (by omega) t v X (hG.below hb) (Nat.le_trans hN hb.size) (ht.below hb) hsz
 have htyp := fun b w (hr : Sx.rightT NM 64 t = true) (h : Wrote W b 0 [] w) => (zckZ NM NM.ok W b _ t (Nat.le_refl _)).1 64 v 0 [] w hr ht h (by omega)
 obtain ⟨An, cn, Ae, ce, Ap, cp, rfl, hnm, hem, hp⟩ := ht.agg
 obtain ⟨L, hL⟩ : ∃ L, W.heap.size = L := ⟨_, rfl⟩
 obtain ⟨w2, hw2⟩ : ∃ w2, W.alloc (.cells #[.int .i64 t.kind, .string ⟨t.name.toArray⟩, .slice An t.names.length cn, .slice Ae t.embeds.length ce, .slice Ap t.parts.length cp] 26) = w2 := ⟨_, rfl⟩
 have hbox : w2.heap[L]? = some (.cells #[.int .i64 t.kind, .string ⟨t.name.toArray⟩, .slice An t.names.length cn, .slice Ae t.embeds.length ce, .slice Ap t.parts.length cp] 26 (0, 0)) := by rw [← hw2, ← hL]; exact heap_alloc_new W _
 have hb2 : Below W.heap.size W w2 := by rw [← hw2]; exact zdZ (World.grownBy_alloc W _ none)
 obtain ⟨K, hK⟩ : ∃ K, w2.heap.size = K := ⟨_, rfl⟩
 have hLK : L ≤ K ∧ L < K := by rw [← hK, ← hw2, ← hL]; simp
 obtain ⟨w3, hw3⟩ : ∃ w3, w2.alloc (.cells #[.pointer none, .slice none 0 0, .int .i64 0] 104) = w3 := ⟨_, rfl⟩
 have htree : w3.heap[K]? = some (.cells #[.pointer none, .slice none 0 0, .int .i64 0] 104 (0, 0)) := by rw [← hw3, ← hK]; exact heap_alloc_new w2 _
 have hg3 : Below w2.heap.size w2 w3 := by rw [← hw3]; exact zdZ (World.grownBy_alloc w2 _ none)
 have hb3 : Below W.heap.size W w3 := hb2.trans (hg3.mono hb2.size)
 have hbox3 := (hg3.block L (by omega)).trans hbox
 have hs3 : K < w3.heap.size := zaZ htree
 obtain ⟨x0, x1, x2, x3, x4⟩ := zcZ hbox3
 have hl3 := zaZ hbox3
 have HFR := Lib.hid (show ∀ w4, Below w3.heap.size w3 w4 → Wrote W K 0 [] w4 ∧ K < w4.heap.size ∧ w4.heap[L]? = w3.heap[L]? from fun w4 hb4 =>
  ⟨Wrote.fresh (by omega) ((hb4.block K hs3).trans htree) (hb3.trans (hb4.mono hb3.size)), Nat.lt_of_lt_of_le hs3 hb4.size, hb4.block L hl3⟩)
 have HRT := Lib.hid (hrt w3 hb3)
 have HTYP := Lib.hid htyp
 have HTREE := Lib.hid htree
 have HBOX3 := Lib.hid hbox3
 have HB3 := Lib.hid hb3
 have HL := Lib.hid hL
 have HLK := Lib.hid hLK
 have HSZ := Lib.hid hsz
 clear hLK hrt htyp ht hnm hem hp hbox hb2 hg3 hb3 hbox3 htree hG hsz
 cases hr : Sx.rightT NM 64 t with
 | false =>
  rw [hr] at HRT
  have HR := Lib.hid hr
  clear hr
  go_enter Tryz.func14, Tryz.ntmps14
  go_wp2_with (first
   | (go_at_call 58; refine HRT.out.mono ?_; rintro e w4 ⟨rfl, hb4⟩; obtain ⟨hW, hl4, -⟩ := HFR.out w4 hb4; have hW4 := Lib.hid hW; clear hb4 hW)
   | (go_at_call 60; refine (toldEnd hW4.out (by omega) false (fun _ => rfl)).mono ?_; rintro e w5 ⟨rfl, hb5⟩))
  refine bodyPost_ret (results_tmp2 rfl _ _ _) rfl ?_
  exact ⟨rfl, hb5⟩
 | true =>
  rw [hr] at HRT
  have HR := Lib.hid hr
  clear hr
  go_enter Tryz.func14, Tryz.ntmps14
  go_wp2_with (first
   | (go_at_call 58; refine HRT.out.mono ?_; rintro e w4 ⟨rfl, hb4⟩; obtain ⟨hW, hl4, hbl4⟩ := HFR.out w4 hb4; have hW4 := Lib.hid hW; have hbox4 := hbl4.trans HBOX3.out; clear hb4 hW hbl4 x0 x1 x2 x3 x4; obtain ⟨x0, x1, x2, x3, x4⟩ := zcZ hbox4; clear hbox4)
   | (go_at_call 59; refine (HTYP.out (K) w4 HR.out hW4.out).mono ?_; rintro e w5 ⟨rfl, h5, -⟩; have hl5 := h5.lt; have hW5 := Lib.hid h5; clear h5)
   | (go_at_call 60; refine (toldEnd hW5.out (by have := HSZ.out; omega) true (fun h => by cases h)).mono ?_; rintro e w6 ⟨rfl, hb6⟩))
  refine bodyPost_ret (results_tmp2 rfl _ _ _) rfl ?_
  exact ⟨rfl, hb6⟩
end Go.Proofs.YtdncljdfmdgdaaaGreatDoor
namespace Go.Proofs.YtdncljdfmdgdaaaGreatDoor
open Go.RowKit Go.Shelf Go.WideMaps
set_option linter.unusedSimpArgs false
set_option linter.unusedVariables false
structure Live (W0 : World) (b : Nat) (l : List Lx.Bytes) (w0 w : World) (L : Nat) (cs : Array Value) (t : TypeId) (L2 : Nat) (cs2 : Array Value) (t2 : TypeId) : Prop where
 wr : Wrote W0 b l.length l w
 kp : KeepW w0 w
 b1 : w.heap[L]? = some (.cells cs t (0, 0))
 b2 : w.heap[L2]? = some (.cells cs2 t2 (0, 0))
def Other (t : TypeId) : Prop := t ≠ 5 ∧ t ≠ 104
theorem Wrote.tight {W0 w : World} {b c : Nat} {l : List Lx.Bytes} (h : Wrote W0 b c l w) : Wrote W0 b l.length l w := ⟨h.wri, h.below, h.good, Nat.le_refl _⟩
theorem Live.go {W0 w0 w w' : World} {b L L2 c : Nat} {l m : List Lx.Bytes} {cs cs2 : Array Value} {t t2 : TypeId} (h : Live W0 b l w0 w L cs t L2 cs2 t2) (ht : Other t) (ht2 : Other t2) (hW : Wrote W0 b c m w') (hk : KeepW w w') : Live W0 b m w0 w' L cs t L2 cs2 t2 :=
 ⟨hW.tight, h.kp.trans hk, hk _ _ _ _ h.b1 ht.1 ht.2, hk _ _ _ _ h.b2 ht2.1 ht2.2⟩
theorem Live.drew {W0 w0 w : World} {b L L2 : Nat} {l : List Lx.Bytes} {cs cs2 : Array Value} {t t2 : TypeId} (h : Live W0 b l w0 w L cs t L2 cs2 t2) : Live W0 b l w0 w.drew L cs t L2 cs2 t2 :=
 ⟨h.wr.drew, h.kp.trans (KeepW.drew w), h.b1, h.b2⟩
theorem Live.grow {W0 w0 w w' : World} {b L L2 : Nat} {l : List Lx.Bytes} {cs cs2 : Array Value} {t t2 : TypeId} (h : Live W0 b l w0 w L cs t L2 cs2 t2) (hg : w.grownBy w' none) : Live W0 b l w0 w' L cs t L2 cs2 t2 :=
 ⟨h.wr.grown hg, h.kp.trans (KeepW.grown hg (fun j e => nomatch e)), (hg.block _ (zaZ h.b1) (fun e => nomatch e)).trans h.b1, (hg.block _ (zaZ h.b2) (fun e => nomatch e)).trans h.b2⟩
theorem Live.box {W0 w0 w : World} {b L L2 : Nat} {l : List Lx.Bytes} {cs cs2 : Array Value} {t t2 : TypeId} (h : Live W0 b l w0 w L cs t L2 cs2 t2) (cs3 : Array Value) (t3 : TypeId) {w' : World} (e : w.alloc (.cells cs3 t3) = w') : Live W0 b l w0 w' L cs t w.heap.size cs3 t3 := by
 subst e
 have hg := World.grownBy_alloc w (.cells cs3 t3) none
 exact ⟨h.wr.grown hg, h.kp.trans (KeepW.alloc w _), (hg.block _ (zaZ h.b1) (fun e => nomatch e)).trans h.b1, heap_alloc_new w _⟩
theorem Live.first {W0 w0 : World} {b : Nat} {l : List Lx.Bytes} (h : Wrote W0 b l.length l w0) (cs : Array Value) (t : TypeId) {w' : World} (e : w0.alloc (.cells cs t) = w') : Live W0 b l w0 w' w0.heap.size cs t w0.heap.size cs t := by
 subst e
 have hg := World.grownBy_alloc w0 (.cells cs t) none
 exact ⟨h.grown hg, KeepW.alloc w0 _, heap_alloc_new w0 _, heap_alloc_new w0 _⟩
theorem Live.lt {W0 w0 w : World} {b L L2 : Nat} {l : List Lx.Bytes} {cs cs2 : Array Value} {t t2 : TypeId} (h : Live W0 b l w0 w L cs t L2 cs2 t2) : L < w.heap.size ∧ L2 < w.heap.size ∧ b < w.heap.size := ⟨zaZ h.b1, zaZ h.b2, h.wr.lt⟩
theorem Live.lput1 {W0 w0 w : World} {b L L2 : Nat} {l : List Lx.Bytes} {cs cs2 : Array Value} {t t2 : TypeId} (h : Live W0 b l w0 w L cs t L2 cs2 t2) (s : Lx.Bytes) (hs : s ≠ [] ∧ s.length ≤ 1000000000) (hn : l.length + 1 ≤ 1000000000) :
  Calls Tryz.prog 100 #[.pointer (some ⟨b, 0, none⟩), .slice (some ⟨w.heap.size, 0, none⟩) 1 1] (w.alloc (.cells #[.string ⟨s.toArray⟩] 9)) fun e w' =>
   e = .returned (.tuple #[]) ∧ Wrote W0 b (l.length + 1) (l ++ [s]) w' ∧ KeepW w w' := put1 h.wr hs hn
theorem Live.lput2 {W0 w0 w : World} {b L L2 : Nat} {l : List Lx.Bytes} {cs cs2 : Array Value} {t t2 : TypeId} (h : Live W0 b l w0 w L cs t L2 cs2 t2) (s u : Lx.Bytes) (hs : s ≠ [] ∧ s.length ≤ 1000000000) (hu : u ≠ [] ∧ u.length ≤ 1000000000) (hn : l.length + 2 ≤ 1000000000) :
  Calls Tryz.prog 100 #[.pointer (some ⟨b, 0, none⟩), .slice (some ⟨w.heap.size, 0, none⟩) 2 2] (w.alloc (.cells #[.string ⟨s.toArray⟩, .string ⟨u.toArray⟩] 9)) fun e w' =>
   e = .returned (.tuple #[]) ∧ Wrote W0 b (l.length + 2) (l ++ [s, u]) w' ∧ KeepW w w' := put2 h.wr hs hu hn
theorem oEx : Other 39 := ⟨by decide, by decide⟩
theorem zbZ {w : World} {g t : Nat} {a b c d e f k : Value} (h : w.heap[g]? = some (.cells #[a, b, c, d, e, f, k] t (0, 0))) :
  w.cell? ⟨g, 0, none⟩ = some a ∧ w.cell? ⟨g, 1, none⟩ = some b ∧ w.cell? ⟨g, 2, none⟩ = some c ∧ w.cell? ⟨g, 3, none⟩ = some d ∧ w.cell? ⟨g, 4, none⟩ = some e ∧ w.cell? ⟨g, 5, none⟩ = some f ∧ w.cell? ⟨g, 6, none⟩ = some k :=
 ⟨cell_of h 0, cell_of h 1, cell_of h 2, cell_of h 3, cell_of h 4, cell_of h 5, cell_of h 6⟩
/-! ### plain -/
mutual
def Sx.sizeX : Sx.Ex → Nat
 | .mk _ _ _ s t ns ps => 1 + s.length + ns.length + (ns.map List.length).sum + Sx.sizeL t + Sx.sizeXs ps
def Sx.sizeXs : List Sx.Ex → Nat
 | [] => 0
 | x :: l => Sx.sizeX x + Sx.sizeXs l
end
theorem Sx.sizeX_parts (x : Sx.Ex) : Sx.sizeX x = 1 + x.s.length + x.names.length + (x.names.map List.length).sum + Sx.sizeL x.t + Sx.sizeXs x.parts := by cases x; rw [Sx.sizeX]; rfl
theorem Sx.sizeX_pos (x : Sx.Ex) : 1 ≤ Sx.sizeX x := by rw [Sx.sizeX_parts]; omega
theorem Sx.sizeX_mem : ∀ {l : List Sx.Ex} {x : Sx.Ex}, x ∈ l → Sx.sizeX x ≤ Sx.sizeXs l
 | u :: l, t, h => by
  rw [Sx.sizeXs]
  rcases List.mem_cons.1 h with rfl | h
  ·omega
  ·have := Sx.sizeX_mem h; omega
theorem Sx.length_sizeXs : ∀ (l : List Sx.Ex), l.length ≤ Sx.sizeXs l
 | [] => by simp [Sx.sizeXs]
 | t :: l => by
  rw [Sx.sizeXs, List.length_cons]
  have := Sx.length_sizeXs l
  have := Sx.sizeX_pos t
  omega
def Sx.okX (x : Sx.Ex) : Prop := ∃ d, Sx.rightX NM d x = true
theorem Sx.rightXs_mem {N : Sx.Names} : ∀ {l : List Sx.Ex} {d0 d : Nat}, Sx.rightXs N d0 d l = true → ∀ p ∈ l, Sx.rightX N d0 p = true ∨ Sx.rightX N d p = true
 | x :: l, d0, d, h, p, hp => by
  rw [Sx.rightXs, Bool.and_eq_true] at h
  rcases List.mem_cons.1 hp with rfl | hp
  ·exact .inl h.1
  ·rcases Sx.rightXs_mem h.2 p hp with h | h
   ·exact .inr h
   ·exact .inr h
theorem Sx.okX.shape {x : Sx.Ex} (h : Sx.okX x) : Sx.shapeX NM x.kind x.n x.s x.t x.names x.parts.length = true ∧ ∀ p ∈ x.parts, Sx.okX p := by
 obtain ⟨d, h⟩ := h
 cases x with
 | mk pos k n s t ns ps =>
  cases d with
  | zero => simp [Sx.rightX] at h
  | succ d =>
   rw [Sx.rightX, Bool.and_eq_true] at h
   refine ⟨h.1, fun p hp => ?_⟩
   rcases Sx.rightXs_mem h.2 p hp with h | h
   ·exact ⟨_, h⟩
   ·exact ⟨_, h⟩
def SY : Sx.Says := ⟨fun n => Lib.decDigits n.toNat, Lx.quote⟩
theorem Sx.expr_eq (x : Sx.Ex) : Sx.expr SY x =
  (if x.kind = 1 then [SY.digits x.n]
  else if x.kind = 2 then [SY.quote x.s]
  else if x.kind = 3 then [if x.n = 1 then [116, 114, 117, 101] else [102, 97, 108, 115, 101]]
  else if x.kind = 4 then [x.s]
  else if x.kind = 5 then [[115, 101, 108, 102]]
  else if x.kind = 6 then [110, 105, 108] :: Sx.typL x.t
  else if x.kind = 7 ∨ x.kind = 8 then (if x.kind = 8 then [[110, 101, 119]] else []) ++ [x.s, [123]] ++ Sx.record SY 0 x.names x.parts ++ [[125]]
  else if x.kind = 9 then Sx.first SY 7 x.parts ++ [[46], x.s]
  else if x.kind = 10 then Sx.first SY 7 x.parts ++ [[46], x.s] ++ Sx.args SY x.parts
  else if x.kind = 11 then Sx.applied SY x.parts ++ Sx.args SY x.parts
  else if x.kind = 12 then Sx.first SY 7 x.parts ++ [[116, 111]] ++ Sx.typL x.t
  else if x.kind = 13 ∨ x.kind = 14 then (if x.kind = 13 then [45] else [110, 111, 116]) :: Sx.first SY 6 x.parts
  else Sx.first SY (if Sx.level x.kind = 3 then 4 else Sx.level x.kind) x.parts ++ [Sx.sign x.kind] ++ Sx.second SY (Sx.level x.kind + 1) x.parts) := by
 cases x; rw [Sx.expr]; rfl
def Sx.within (x : Sx.Ex) : List Lx.Bytes := [[40]] ++ Sx.expr SY x ++ [[41]]
def Sx.part (lv : Nat) (x : Sx.Ex) : List Lx.Bytes := if Sx.level x.kind < lv then Sx.within x else Sx.expr SY x
theorem Sx.first_head : ∀ {l : List Sx.Ex} (lv : Nat) (h : 0 < l.length), Sx.first SY lv l = Sx.part lv (l[0]'h)
 | x :: l, lv, h => by rw [Sx.first]; rfl
theorem Sx.second_head : ∀ {l : List Sx.Ex} (lv : Nat) (h : 1 < l.length), Sx.second SY lv l = Sx.part lv (l[1]'h)
 | x :: y :: l, lv, h => by rw [Sx.second]; exact Sx.first_head lv (by simp)
theorem Sx.applied_head : ∀ {l : List Sx.Ex} (h : 0 < l.length), Sx.applied SY l = if (l[0]'h).kind = 9 then Sx.within (l[0]'h) else Sx.part 7 (l[0]'h)
 | x :: l, h => by
  rw [Sx.applied]
  simp only [List.getElem_cons_zero]
  unfold Sx.part
  by_cases h9 : x.kind = 9
  ·simp [h9, Sx.within]
  ·simp [h9, Sx.within]
def Sx.listed (l : List Sx.Ex) : List Lx.Bytes := [[40]] ++ Sx.list SY 0 l ++ [[41]]
theorem Sx.args_tail : ∀ {l : List Sx.Ex} (h : 0 < l.length), Sx.args SY l = Sx.listed l.tail
 | x :: l, h => by rw [Sx.args]; rfl
end Go.Proofs.YtdncljdfmdgdaaaGreatDoor
namespace Go.Proofs.YtdncljdfmdgdaaaGreatDoor
set_option linter.unusedSimpArgs false
set_option linter.unusedVariables false
structure Sx.Sh where
 s : Int
 n : Bool
 t : Bool
 names : Bool
 least : Int
 most : Int
def Sx.Sh.v (h : Sx.Sh) : Value := .agg #[.int .i64 h.s, .bool h.n, .bool h.t, .bool h.names, .int .i64 h.least, .int .i64 h.most]
def Sx.shapeOf (k : Int) : Sx.Sh × Bool :=
 if k = 1 ∨ k = 3 then (⟨0, true, false, false, 0, 0⟩, true)
 else if k = 2 then (⟨-1, false, false, false, 0, 0⟩, true)
 else if k = 4 then (⟨1, false, false, false, 0, 0⟩, true)
 else if k = 5 then (⟨0, false, false, false, 0, 0⟩, true)
 else if k = 6 then (⟨0, false, true, false, 0, 0⟩, true)
 else if k = 7 ∨ k = 8 then (⟨2, false, false, true, 0, 1073741824⟩, true)
 else if k = 9 then (⟨1, false, false, false, 1, 1⟩, true)
 else if k = 10 then (⟨1, false, false, false, 1, 1073741824⟩, true)
 else if k = 11 then (⟨0, false, false, false, 1, 1073741824⟩, true)
 else if k = 12 then (⟨0, false, true, false, 1, 1⟩, true)
 else if k = 13 ∨ k = 14 then (⟨0, false, false, false, 1, 1⟩, true)
 else if 15 ≤ k ∧ k ≤ 21 then (⟨0, false, false, false, 2, 2⟩, true)
 else (⟨0, false, false, false, 0, 0⟩, false)
def Sx.rightText (h : Sx.Sh) (s : Lx.Bytes) : Bool := if h.s < 0 then NM.said s else if h.s = 0 then s.isEmpty else isTok h.s s
def Sx.b2 (ok d0 rt hn nz nn k3 n1 : Bool) : Bool := !ok || (d0 || (!rt || ((!hn && nz) || (nn || (k3 && n1)))))
def Sx.b4 (ht t1 t0 rt : Bool) : Bool := (ht != t1) || ((!ht && t0) || (ht && !rt))
def Sx.b7 (hn nm ul n0 ls ms : Bool) : Bool := (hn && (nm || !ul)) || ((!hn && n0) || (ls || ms))
def Sx.right0 (t : List Sx.Ty) : Bool := match t with | [] => true | p :: _ => Sx.rightT NM 64 p
def Sx.good (k n : Int) (s : Lx.Bytes) (t : List Sx.Ty) (ns : List Lx.Bytes) (m : Nat) : Bool :=
  let h := Sx.shapeOf k
  !Sx.b2 h.2 false (Sx.rightText h.1 s) h.1.n (n != 0) (decide (n < 0)) (k == 3) (decide (1 < n)) &&
  (!Sx.b4 h.1.t (t.length == 1) (decide (0 < t.length)) (Sx.right0 t) &&
   !Sx.b7 h.1.names (m != ns.length) (Sx.apart NM ns) (decide (0 < ns.length)) (decide ((m : Int) < h.1.least)) (decide (h.1.most < (m : Int))))
theorem Sx.rts1 {t : List Sx.Ty} (h : t.length = 1) : Sx.rightTs NM 64 t = Sx.right0 t := by
 match t, h with
 | [p], _ => simp [Sx.rightTs, Sx.right0]
theorem Sx.good_none {k n : Int} {s : Lx.Bytes} {t : List Sx.Ty} {ns : List Lx.Bytes} {m : Nat} (hk : ¬ (1 ≤ k ∧ k ≤ 21)) : Sx.shapeX NM k n s t ns m = Sx.good k n s t ns m := by
 have h1 : Sx.shapeX NM k n s t ns m = false := by unfold Sx.shapeX; rw [decide_eq_false hk]; rfl
 have h2 : (Sx.shapeOf k).2 = false := by
  unfold Sx.shapeOf
  rw [if_neg (by omega), if_neg (by omega), if_neg (by omega), if_neg (by omega), if_neg (by omega), if_neg (by omega), if_neg (by omega), if_neg (by omega), if_neg (by omega), if_neg (by omega), if_neg (by omega), if_neg (by omega)]
 rw [h1]
 unfold Sx.good
 simp only [h2]
 simp [Sx.b2]
set_option maxHeartbeats 2000000 in
theorem Sx.good_eq {k n : Int} {s : Lx.Bytes} {t : List Sx.Ty} {ns : List Lx.Bytes} {m : Nat} (hm : m ≤ 1000000) : Sx.shapeX NM k n s t ns m = Sx.good k n s t ns m := by
 by_cases hk : 1 ≤ k ∧ k ≤ 21
 ·have hcs : k = 1 ∨ k = 2 ∨ k = 3 ∨ k = 4 ∨ k = 5 ∨ k = 6 ∨ k = 7 ∨ k = 8 ∨ k = 9 ∨ k = 10 ∨ k = 11 ∨ k = 12 ∨ k = 13 ∨ k = 14 ∨ k = 15 ∨ k = 16 ∨ k = 17 ∨ k = 18 ∨ k = 19 ∨ k = 20 ∨ k = 21 := by omega
  clear hk
  have ht1 := fun h : t.length = 1 => Sx.rts1 (t := t) h
  have hmi : (m : Int) ≤ 1000000 := by omega
  rw [Bool.eq_iff_iff]
  rcases t with _ | ⟨p, _ | ⟨q, r⟩⟩
  all_goals
   rcases ns with _ | ⟨a, ns⟩
   all_goals
    rcases hcs with rfl | rfl | rfl | rfl | rfl | rfl | rfl | rfl | rfl | rfl | rfl | rfl | rfl | rfl | rfl | rfl | rfl | rfl | rfl | rfl | rfl
    all_goals
     simp [Sx.shapeX, Sx.good, Sx.shapeOf, Sx.b2, Sx.b4, Sx.b7, Sx.rightText, NM, Sx.rightTs, Sx.right0, Sx.apart]
  all_goals
   constructor
   all_goals
    intro h
    (repeat' apply And.intro)
    all_goals first | omega | exact h.1 | exact h.1.1 | exact h.2.2.1 | exact h.2.2.2.1 | exact h.2.1 | exact h.2.1.2 | (simp_all; done) | (obtain ⟨⟨a1, a2⟩, a3⟩ := h; simp_all; omega)
 ·exact Sx.good_none hk
end Go.Proofs.YtdncljdfmdgdaaaGreatDoor
