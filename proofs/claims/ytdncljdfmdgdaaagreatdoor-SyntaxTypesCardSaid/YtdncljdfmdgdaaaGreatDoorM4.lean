/-
  The walk of (*cutter).name.
-/
/-
 The walk of (*cutter).name.
 strconv.Atoi at digits alone; strconv.Itoa: what they answer, in the words of the plain spec.
-/
import Derived.Test.YtdncljdfmdgdaaaGreatDoorM2
import Derived.Test.YtdncljdfmdgdaaaGreatDoorM3
import Derived.BigRegion
import Derived.Deep.DeepCutAuto
import Derived.Deep.CutBlock
import Derived.Deep.RegionHeld3
import Derived.Lib.AtoiErrMem
namespace Go.Proofs.YtdncljdfmdgdaaaGreatDoor
open Go.RowKit
set_option linter.unusedSimpArgs false
set_option linter.unusedVariables false
def tokV (t : Lx.Tok) : Value := .agg #[.int .i64 t.pos, .int .i64 t.kind, .string ⟨t.s.toArray⟩, .int .i64 t.n]
def ResIs (p : Int) (b : Nat) (s : ByteArray) (k : Nat) (w : World) (r : Lx.Res) (e : Ending) (w' : World) : Prop :=
 w.grownBy w' (some b) ∧
 match r with
 | .ok t n => e = .returned (.tuple #[tokV t, .pointer none]) ∧ Cu w' b s (k + n)
 | .bad y x => ∃ g j, e = .returned (.tuple #[tokV ⟨p, 0, [], 0⟩, .pointer (some ⟨g, 0, none⟩)]) ∧ IsRef w' g x y ∧ w.heap.size ≤ g ∧ Cu w' b s j
theorem resBad {w wq : World} {b k m g : Nat} {s : ByteArray} {p x : Int} {y : Nat} {r : Lx.Res} {xa : Nat} (hx : x = (xa : Int)) (hr : r = .bad y xa) (hg : w.grownBy wq (some b)) (hC : Cu wq b s m) (hbg : b < g) (hwg : w.heap.size ≤ g) (c0 c1 c2 c3 : Value) :
  ResIs p b s k w r (.returned (.tuple #[.agg #[.int .i64 p, .int .i64 0, .string ⟨#[]⟩, .int .i64 0], .pointer (some ⟨wq.heap.size, 0, none⟩)]))
   (((((wq.setCell ⟨g, 0, none⟩ c0).setCell ⟨g, 1, none⟩ c1).setCell ⟨g, 2, none⟩ c2).setCell ⟨g, 3, none⟩ c3).alloc (.cells #[.int .i64 x, .int .i64 y] 183)).drew := by
 subst hr
 refine ⟨?_, wq.heap.size, m, rfl, ?_, hg.size, ?_⟩
 ·exact znZ hg ((((((zhZ _ _ _ _).trans (zhZ _ _ _ _)).trans (zhZ _ _ _ _)).trans (zhZ _ _ _ _)).trans (World.grownBy_alloc _ _ _)).trans (ziZ _ 1 _)) hwg
 ·have h := heap_alloc_new ((((wq.setCell ⟨g, 0, none⟩ c0).setCell ⟨g, 1, none⟩ c1).setCell ⟨g, 2, none⟩ c2).setCell ⟨g, 3, none⟩ c3) (.cells #[.int .i64 x, .int .i64 y] 183)
  have e : ((((wq.setCell ⟨g, 0, none⟩ c0).setCell ⟨g, 1, none⟩ c1).setCell ⟨g, 2, none⟩ c2).setCell ⟨g, 3, none⟩ c3).heap.size = wq.heap.size := by simp [World.setCell]
  rw [e] at h
  subst hx
  exact h
 ·exact ((((hC.far (by omega) _ _).far (by omega) _ _).far (by omega) _ _).far (by omega) _ _).alloc _
theorem zdyZ {s : ByteArray} {k m : Nat} (hm : m = k + 32) (hlt : m < s.size) (hw : Lx.within (s[m]'hlt) = true)
  (he : (s.data.toList.drop k).takeWhile Lx.within = (s.data.toList.drop k).take (m - k) ++ (s.data.toList.drop m).takeWhile Lx.within) :
  Lx.cutName k (s.data.toList.drop k) = .bad 2 (k + 32) := by
 unfold Lx.cutName
 have hl : 32 < ((s.data.toList.drop k).takeWhile Lx.within).length := by
  rw [he, byte_at s m hlt, List.takeWhile_cons, if_pos hw]
  simp
  omega
 simp [hl]
theorem zcqZ {s : ByteArray} {k m : Nat} (hkm : k ≤ m) (hm : m ≤ s.size) (hm32 : m ≤ k + 32) (he : (s.data.toList.drop k).takeWhile Lx.within = (s.data.toList.drop k).take (m - k)) :
  Lx.cutName k (s.data.toList.drop k) = .ok ⟨k, Lx.nameKind ((s.data.toList.drop k).take (m - k)), (s.data.toList.drop k).take (m - k), 0⟩ (m - k) := by
 unfold Lx.cutName
 have hl : ((s.data.toList.drop k).take (m - k)).length = m - k := by
  rw [List.length_take, List.length_drop, zgZ]
  omega
 rw [he]
 simp only [hl]
 rw [if_neg (by omega)]
theorem resOk {w wq : World} {b k m g : Nat} {s : ByteArray} {p a0 a1 a3 : Int} {a2 : ByteArray} {r : Lx.Res} {t : Lx.Tok} {n : Nat} (hr : r = .ok t n) (hm : m = k + n) (h0 : a0 = t.pos) (h1 : a1 = t.kind) (h2 : a2.data.toList = t.s) (h3 : a3 = t.n)
  (hg : w.grownBy wq (some b)) (hC : Cu wq b s m) (hbg : b < g) (hwg : w.heap.size ≤ g) (c0 c1 c2 c3 : Value) :
  ResIs p b s k w r (.returned (.tuple #[.agg #[.int .i64 a0, .int .i64 a1, .string a2, .int .i64 a3], .pointer none]))
   ((((wq.setCell ⟨g, 0, none⟩ c0).setCell ⟨g, 1, none⟩ c1).setCell ⟨g, 2, none⟩ c2).setCell ⟨g, 3, none⟩ c3) := by
 subst hr
 refine ⟨?_, ?_, ?_⟩
 ·exact znZ hg ((((zhZ _ _ _ _).trans (zhZ _ _ _ _)).trans (zhZ _ _ _ _)).trans (zhZ _ _ _ _)) hwg
 ·subst h0 h1 h3
  have e : a2 = ⟨t.s.toArray⟩ := by
   rw [← h2]
  rw [e]
  rfl
 ·subst hm
  exact ((((hC.far (by omega) _ _).far (by omega) _ _).far (by omega) _ _).far (by omega) _ _)
theorem zuZ (s : ByteArray) (k m : Nat) : (s.extract k m).data.toList = (s.data.toList.drop k).take (m - k) := Lib.extract_data s k m
theorem zgnZ (s : ByteArray) (k m : Nat) (hnz : 0 < (s.extract k m).size) :
  ((if (Lx.words.take 25).contains (s.extract k m).data.toList then (3 : Nat) else (if Lx.great ((s.extract k m)[0]'hnz) then 2 else 1) : Nat)) = Lx.nameKind ((s.data.toList.drop k).take (m - k)) := by
 have hh : (s.extract k m).data.toList.head? = some ((s.extract k m)[0]'hnz) := by
  rw [List.head?_eq_getElem?, List.getElem?_eq_getElem (by rw [zgZ]; exact hnz)]
  rfl
 unfold Lx.nameKind
 rw [← zuZ, hh, show Lx.words.take 25 = Lx.words from rfl]
 rfl
theorem zgoZ (j : Nat) (h : j < 25) : wordCells[j]? = some (.string ⟨(Lx.words.getD j []).toArray⟩) := by
 have hl : Lx.words.length = 25 := rfl
 unfold wordCells
 rw [List.getElem?_toArray, List.getElem?_map, List.getElem?_eq_getElem (by omega), List.getD_eq_getElem?_getD, List.getElem?_eq_getElem (by omega)]
 rfl
theorem zeuZ (j : Nat) (h : j < 25) (x : List UInt8) : (Lx.words.take (j + 1)).contains x = ((Lx.words.take j).contains x || (Lx.words.getD j [] == x)) := by
 have hl : j < Lx.words.length := by show j < 25; exact h
 rw [List.take_succ_eq_append_getElem hl, List.getD_eq_getElem?_getD, List.getElem?_eq_getElem hl, Bool.eq_iff_iff]
 generalize Lx.words[j] = y
 generalize Lx.words.take j = l
 simp only [List.contains_iff_mem, List.mem_append, List.mem_singleton, Bool.or_eq_true, beq_iff_eq, Option.getD_some]
 exact ⟨fun h => h.imp id Eq.symm, fun h => h.imp id Eq.symm⟩
def kindUpTo (j : Nat) (nm : List UInt8) (kd : Nat) : Nat := if (Lx.words.take j).contains nm then 3 else kd
set_option maxHeartbeats 2000000 in
theorem lexName (s : ByteArray) (b k : Nat) (w : World) (hc : Cu w b s k) (hk : k < s.size) (hs : s.size ≤ 140737488351232) (hG : GS w) (hb : NG ≤ b) (hl : Lx.letter (s[k]'hk) = true) :
  Calls Tryz.prog 145 #[.pointer (some ⟨b, 0, none⟩), .agg #[.int .i64 k, .int .i64 0, .string ⟨#[]⟩, .int .i64 0]] w
   (ResIs k b s k w (Lx.cutName k (s.data.toList.drop k))) := by
 have HC0 := Lib.hid hc
 have hc1 := hc.c1
 have hbw := hc.lt
 have hc1b : ((w.alloc (.cells #[.int .i64 k, .int .i64 0, .string ⟨#[]⟩, .int .i64 0] 133)).alloc (.cells #[.int .i64 0, .int .i64 0, .string ⟨#[]⟩, .int .i64 0] 133)).cell? ⟨b, 1, none⟩ = some (.int .i64 k) := by
  rw [World.cell?_alloc_lt _ _ ⟨b, 1, none⟩ (by simp; omega), World.cell?_alloc_lt _ _ ⟨b, 1, none⟩ hbw]
  exact hc1
 clear hc
 go_enter Tryz.func145, Tryz.ntmps145
 go_upto_block 0 with fail
 clear hc1b
 obtain ⟨w2, hw2⟩ : ∃ w2, (w.alloc (.cells #[.int .i64 k, .int .i64 0, .string ⟨#[]⟩, .int .i64 0] 133)).alloc (.cells #[.int .i64 0, .int .i64 0, .string ⟨#[]⟩, .int .i64 0] 133) = w2 := ⟨_, rfl⟩
 rw [hw2]
 have hg2 : w.grownBy w2 (some b) := by rw [← hw2]; exact (World.grownBy_alloc _ _ _).trans (World.grownBy_alloc _ _ _)
 have hT : w2.heap[w.heap.size]? = some (.cells #[.int .i64 k, .int .i64 0, .string ⟨#[]⟩, .int .i64 0] 133 (0, 0)) := by
  rw [← hw2, Below.heap_alloc _ _ _ (by simp)]; exact heap_alloc_new w _
 have hZ : w2.heap[w.heap.size + 1]? = some (.cells #[.int .i64 0, .int .i64 0, .string ⟨#[]⟩, .int .i64 0] 133 (0, 0)) := by
  rw [← hw2]; have := heap_alloc_new (w.alloc (.cells #[.int .i64 k, .int .i64 0, .string ⟨#[]⟩, .int .i64 0] 133)) (.cells #[.int .i64 0, .int .i64 0, .string ⟨#[]⟩, .int .i64 0] 133); rwa [World.size_alloc] at this
 have hz2 : w2.heap.size = w.heap.size + 2 := by rw [← hw2]; simp
 have hC2 : Cu w2 b s k := by rw [← hw2]; exact (HC0.out.alloc _).alloc _
 have HT := Lib.hid hT
 have HZ := Lib.hid hZ
 have HC2 := Lib.hid hC2
 have hz2' : w.heap.size + 2 ≤ w2.heap.size := by omega
 clear hT hZ hC2 hz2 hw2
 go_cut [] (fun wx => ∃ m : Nat, k ≤ m ∧ m ≤ s.size ∧ m ≤ k + 32 ∧ Cu wx b s m ∧ w2.grownBy wx (some b) ∧ (s.data.toList.drop k).takeWhile Lx.within = (s.data.toList.drop k).take (m - k))
 case first =>
  go_wp2
  go_loopg [] (s.size - k) (fun n wr => ∃ m : Nat, n = s.size - m ∧ k ≤ m ∧ m ≤ s.size ∧ m ≤ k + 32 ∧ Cu wr b s m ∧ w2.grownBy wr (some b) ∧
   (s.data.toList.drop k).takeWhile Lx.within = (s.data.toList.drop k).take (m - k) ++ (s.data.toList.drop m).takeWhile Lx.within)
  case atStart => exact ⟨k, rfl, Nat.le_refl _, by omega, by omega, HC2.out, World.grownBy.refl _ _, by simp⟩
  case round =>
   obtain ⟨m, hn, hkm, hm, hm32, hcm, hg, he⟩ := hrel
   have hc0 := hcm.c0
   have hc1 := hcm.c1
   have hf1 := hcm.f1
   have HE := Lib.hid he
   have HN := Lib.hid hn
   have HC := Lib.hid hcm
   clear he hn hcm
   by_cases hlt : m < s.size
   ·have hi : (m : Int) < (s.size : Int) := by omega
    have hi0 : (0 : Int) ≤ (m : Int) := by omega
    have HD0 := Lib.hid (byte_at s m hlt)
    go_wp2
    go_quiet ((go_at_call 157; exact zcpZ (zdfZ _ _)))
    have hgq := hg.trans (ziZ wr nq (some b))
    have hCq := HC.out.drewN nq
    obtain ⟨wq, hwq⟩ : ∃ wq, wr.drewN nq = wq := ⟨_, rfl⟩
    rw [hwq] at hgq hCq ⊢
    have hc0 := hCq.c0
    have hc1 := hCq.c1
    have hf1 := hCq.f1
    have HCq := Lib.hid hCq
    clear hwq hCq
    cases hwi : Lx.within (s[m]'hlt)
    ·go_wp2
     go_meet
     refine ⟨m, hkm, hm, hm32, HCq.out, ?_, ?_⟩
     ·repeat (first | exact hgq | refine World.grownBy.trans ?_ (ziZ _ _ _))
     ·have e := HE.out
      rw [HD0.out, List.takeWhile_cons, hwi] at e
      simpa using e
    ·by_cases h32 : m = k + 32
     ·have hB : ((m : Int) - (k : Int) == 32) = true := by simp; omega
      have H32 := Lib.hid h32
      clear h32
      have hTr := (hgq.block w.heap.size (by omega) (by intro e; injection e with e; omega)).trans HT.out
      have hZr := (hgq.block (w.heap.size + 1) (by omega) (by intro e; injection e with e; omega)).trans HZ.out
      obtain ⟨t0, t1, t2, t3⟩ := zfZ hTr
      obtain ⟨z0, z1, z2, z3⟩ := zfZ hZr
      obtain ⟨f0, f1, f2, f3⟩ := zjZ hZr
      have hsz := hgq.size
      have hlt0 : w.heap.size < wq.heap.size := by omega
      have hlt1 : w.heap.size + 1 < wq.heap.size := by omega
      have hltb : b < wq.heap.size := by omega
      have HTr := Lib.hid hTr
      have HZr := Lib.hid hZr
      clear hTr hZr
      go_wp2
      go_region_with (go_at_call 124; refine (zbdZ _ _ _).mono ?_; rintro e w' ⟨rfl, rfl⟩)
      all_goals
       go_wp2
       refine bodyPost_ret (v := .tuple #[.agg #[.int .i64 k, .int .i64 0, .string ⟨#[]⟩, .int .i64 0], .pointer (some ⟨wq.heap.size, 0, none⟩)]) (by simp [results, Tryz.results145, go_sem, z0, z1, z2, z3, f0, f1, f2, f3, hlt1]) rfl ?_
       exact resBad (by rw [H32.out]) (zdyZ H32.out hlt hwi HE.out) (hg2.trans hgq) HCq.out (by omega) (by omega) _ _ _ _
     ·have hB : ((m : Int) - (k : Int) == 32) = false := by simp; omega
      go_wp2
      go_roundg (s.size - (m + 1))
      case measure => have := HN.out; omega
      case rel =>
       refine ⟨m + 1, rfl, by omega, by omega, by omega, HCq.out.set _ _ (by omega), ?_, ?_⟩
       ·repeat (first | exact hgq | refine World.grownBy.trans ?_ (ziZ _ _ _) | refine World.grownBy.trans ?_ (zhZ _ _ _ _))
       ·have e := HE.out
        rw [HD0.out, List.takeWhile_cons, hwi] at e
        rw [e, zbfZ s k m hkm hlt]
        simp
   ·go_wp2
    go_quiet (fail)
    go_wp2
    go_meet
    refine ⟨m, hkm, hm, hm32, HC.out, ?_, ?_⟩
    ·repeat (first | exact hg | refine World.grownBy.trans ?_ (ziZ _ _ _))
    ·have e := HE.out
     have hd0 : s.data.toList.drop m = [] := List.drop_eq_nil_of_le (by rw [zgZ]; omega)
     rw [hd0] at e
     simpa using e
 case rest =>
  obtain ⟨m, hkm, hm, hm32, hcm, hg, he⟩ := hcut
  obtain ⟨wo, rfl⟩ : ∃ wo : World, wo = wc := ⟨_, rfl⟩
  have hTx := (hg.block w.heap.size (by omega) (by intro e; injection e with e; omega)).trans HT.out
  have hZx := (hg.block (w.heap.size + 1) (by omega) (by intro e; injection e with e; omega)).trans HZ.out
  obtain ⟨t0, t1, t2, t3⟩ := zfZ hTx
  obtain ⟨e0, e1, e2, e3⟩ := zjZ hTx
  obtain ⟨z0, z1, z2, z3⟩ := zfZ hZx
  obtain ⟨f0, f1, f2, f3⟩ := zjZ hZx
  have hsz := hg.size
  have hlt0 : w.heap.size < wo.heap.size := by omega
  have hlt1 : w.heap.size + 1 < wo.heap.size := by omega
  have hltb : b < wo.heap.size := by omega
  have hc0 := hcm.c0
  have hc1 := hcm.c1
  have hkm' : k < m := by
   rcases Nat.lt_or_ge k m with h | h
   ·exact h
   ·exfalso
    rw [byte_at s k hk, List.takeWhile_cons, if_pos (by simp [Lx.within, hl]), show m - k = 0 from by omega] at he
    simp at he
  have HTx := Lib.hid hTx
  have HZx := Lib.hid hZx
  have HCx := Lib.hid hcm
  have HEx := Lib.hid he
  have i1 : (k : Int) ≤ (m : Int) := by omega
  have i2 : (m : Int) ≤ (s.size : Int) := by omega
  have hnz : 0 < (s.extract k m).size := by simp; omega
  clear hTx hZx hcm he
  go_wp2
  go_region
  go_upto_if 70 with (go_at_call 155; refine (zgjZ _ _).mono ?_; rintro e w' ⟨rfl, rfl⟩)
  obtain ⟨wv, hwv⟩ : ∃ wv, ((wo.setCell ⟨w.heap.size, 2, none⟩ (.string (s.extract k m))).setCell ⟨w.heap.size, 1, none⟩ (.int .i64 1)).drew = wv := ⟨_, rfl⟩
  rw [hwv]
  have hTv : wv.heap[w.heap.size]? = some (.cells #[.int .i64 k, .int .i64 1, .string (s.extract k m), .int .i64 0] 133 (0, 0)) := by
   rw [← hwv]
   show ((wo.setCell ⟨w.heap.size, 2, none⟩ (.string (s.extract k m))).setCell ⟨w.heap.size, 1, none⟩ (.int .i64 1)).heap[w.heap.size]? = _
   simp [World.setCell, Array.getElem?_modify, HTx.out]
  have hgv : wo.grownBy wv (some w.heap.size) := by
   rw [← hwv]
   exact ((zhZ _ _ _ _).trans (zhZ _ _ _ _)).trans (ziZ _ 1 _)
  obtain ⟨g0, g1, g2, g3⟩ := zfZ hTv
  obtain ⟨y0, y1, y2, y3⟩ := zjZ hTv
  have HTv := Lib.hid hTv
  clear hwv hTv
  go_cut [] (fun wx => wx.heap[w.heap.size]? = some (.cells #[.int .i64 k, .int .i64 (if Lx.great ((s.extract k m)[0]'hnz) then 2 else 1), .string (s.extract k m), .int .i64 0] 133 (0, 0)) ∧ wo.grownBy wx (some w.heap.size))
  case first =>
   go_wp2
   ·go_meet
    rename_i hgt
    refine ⟨?_, hgv.trans (zhZ _ _ _ _)⟩
    rw [if_pos hgt]
    simp [World.setCell, Array.getElem?_modify, HTv.out]
   ·go_meet
    rename_i hgt
    refine ⟨?_, hgv⟩
    rw [if_neg (by rw [hgt]; decide)]
    exact HTv.out
  case rest =>
   obtain ⟨hTy, hgy⟩ := hcut
   obtain ⟨kd, hkd⟩ : ∃ kd : Nat, kd = (if Lx.great ((s.extract k m)[0]'hnz) then 2 else 1) := ⟨_, rfl⟩
   have hTy : wc.heap[w.heap.size]? = some (.cells #[.int .i64 k, .int .i64 kd, .string (s.extract k m), .int .i64 0] 133 (0, 0)) := by
    rw [hTy, hkd]
    split <;> rfl
   have HKD := Lib.hid hkd
   have hZy := (hgy.block (w.heap.size + 1) (by omega) (by intro e; injection e with e; omega)).trans HZx.out
   have hCy : Cu wc b s m := HCx.out.kept hgy (by intro e; injection e with e; omega)
   have hgw : w.grownBy wc (some b) := znZ (hg2.trans hg) hgy (by omega)
   have hGy : GS wc := hG.grown hgw hb
   have hszy := hgy.size
   have HTy := Lib.hid hTy
   have HZy := Lib.hid hZy
   have HCy := Lib.hid hCy
   clear hkd hTy hZy hCy t0 t1 t2 t3 e0 e1 e2 e3 z0 z1 z2 z3 f0 f1 f2 f3 hc0 hc1 g0 g1 g2 g3 y0 y1 y2 y3
   go_wp2_with (go_at_call 158; refine (zldZ _ hGy.asc).mono ?_; rintro e w' ⟨rfl, rfl⟩)
   go_loopg [74] 25 (fun n v wr => ∃ j : Nat, n = 25 - j ∧ j ≤ 25 ∧ v = .int .i64 j ∧
    wr.heap[w.heap.size]? = some (.cells #[.int .i64 k, .int .i64 (kindUpTo j (s.extract k m).data.toList kd), .string (s.extract k m), .int .i64 0] 133 (0, 0)) ∧
    (wc.alloc (.cells wordCells 9)).grownBy wr (some w.heap.size))
   case atStart => exact ⟨0, rfl, by omega, rfl, heap_alloc HTy.out _, World.grownBy.refl _ _⟩
   case round =>
    obtain ⟨j, hn, hj, rfl, hTr, hgr⟩ := hrel
    obtain ⟨t0, t1, t2, t3⟩ := zfZ hTr
    obtain ⟨e0, e1, e2, e3⟩ := zjZ hTr
    have HN := Lib.hid hn
    have HTr := Lib.hid hTr
    clear hn hTr
    by_cases hlt : j < 25
    ·have hwd : wr.cell? ⟨wc.heap.size, j, none⟩ = some (.string ⟨(Lx.words.getD j []).toArray⟩) := by
      rw [cell_of ((hgr.block wc.heap.size (by simp) (by intro e; injection e with e; omega)).trans (heap_alloc_new wc _)), zgoZ j hlt]
     have hi1 : (j : Int) < 25 := by omega
     have hi0 : (0 : Int) ≤ (j : Int) := by omega
     have HWG := Lib.hid (zeuZ j hlt (s.extract k m).data.toList)
     go_wp2
     ·have heq : (Lx.words[j]?.getD [] == (s.extract k m).toList) = true := by assumption
      go_roundg (25 - (j + 1))
      case measure => have := HN.out; omega
      case rel =>
       refine ⟨j + 1, rfl, by omega, by go_num, ?_, hgr.trans (zhZ _ _ _ _)⟩
       have e3 : kindUpTo (j + 1) (s.extract k m).data.toList kd = 3 := by
        unfold kindUpTo
        rw [Lib.toList_data, ← List.getD_eq_getElem?_getD] at heq
        rw [HWG.out, heq, Bool.or_true, if_pos rfl]
       rw [e3]
       simp [World.setCell, Array.getElem?_modify, HTr.out]
     ·have heq : (Lx.words[j]?.getD [] == (s.extract k m).toList) = false := by assumption
      go_roundg (25 - (j + 1))
      case measure => have := HN.out; omega
      case rel =>
       refine ⟨j + 1, rfl, by omega, by go_num, ?_, hgr⟩
       have e3 : kindUpTo (j + 1) (s.extract k m).data.toList kd = kindUpTo j (s.extract k m).data.toList kd := by
        unfold kindUpTo
        rw [Lib.toList_data, ← List.getD_eq_getElem?_getD] at heq
        rw [HWG.out, heq, Bool.or_false]
       rw [e3]
       exact HTr.out
    ·have hZr := (hgr.block (w.heap.size + 1) (by simp; omega) (by intro e; injection e with e; omega)).trans (heap_alloc HZy.out _)
     obtain ⟨z0, z1, z2, z3⟩ := zfZ hZr
     obtain ⟨f0, f1, f2, f3⟩ := zjZ hZr
     have HZr := Lib.hid hZr
     clear hZr
     have hlt1' : w.heap.size + 1 < wr.heap.size := zaZ HZr.out
     have hjj : j = 25 := by omega
     have HJ := Lib.hid hjj
     clear hjj
     go_wp2
     refine bodyPost_ret (v := .tuple #[.agg #[.int .i64 k, .int .i64 (kindUpTo j (s.extract k m).data.toList kd), .string (s.extract k m), .int .i64 0], .pointer none]) (by simp [results, Tryz.results145, go_sem, z0, z1, z2, z3, f0, f1, f2, f3]) rfl ?_
     refine resOk (zcqZ hkm hm hm32 HEx.out) (by omega) rfl ?_ (zuZ _ _ _) rfl (znZ hgw ((World.grownBy_alloc _ _ _).trans hgr) (by omega)) (HCy.out.alloc _ |>.kept hgr (by intro e; injection e with e; omega)) (by omega) (by omega) _ _ _ _
     rw [HJ.out, HKD.out]
     unfold kindUpTo
     rw [zgnZ s k m hnz]
end Go.Proofs.YtdncljdfmdgdaaaGreatDoor
namespace Go.Proofs.YtdncljdfmdgdaaaGreatDoor
open Go.RowKit
set_option linter.unusedSimpArgs false
set_option linter.unusedVariables false
namespace Lx
def valueFrom (acc : Nat) (l : Bytes) : Nat := l.foldl (fun v c => v * 10 + (c.toNat - 48)) acc
theorem zlfZ (l : Bytes) : value l = valueFrom 0 l := rfl
theorem zdhZ : ∀ (l : Bytes) (acc : Nat), acc ≤ valueFrom acc l
 | [], acc => Nat.le_refl _
 | c :: t, acc => by
  have := zdhZ t (acc * 10 + (c.toNat - 48))
  show acc ≤ valueFrom (acc * 10 + (c.toNat - 48)) t
  omega
theorem zdiZ : ∀ (l : Bytes) (acc : Nat), l.all digit = true → acc < 18446744073709551616 →
  Lib.parseUint10 acc l = if valueFrom acc l < 18446744073709551616 then .ok (valueFrom acc l) else .range
 | [], acc, _, h => by simp [Lib.parseUint10, valueFrom, h]
 | c :: t, acc, hd, h => by
  simp only [List.all_cons, Bool.and_eq_true] at hd
  have h1 : 48 ≤ c.toNat ∧ c.toNat ≤ 57 := by simpa [digit] using hd.1
  have hge := zdhZ t (acc * 10 + (c.toNat - 48))
  have hv : valueFrom acc (c :: t) = valueFrom (acc * 10 + (c.toNat - 48)) t := rfl
  unfold Lib.parseUint10
  rw [if_pos h1, hv]
  by_cases a : 1844674407370955162 ≤ acc
  ·rw [if_pos a, if_neg (by omega)]
  ·rw [if_neg a]
   by_cases b : 18446744073709551616 ≤ acc * 10 + (c.toNat - 48)
   ·rw [if_pos b, if_neg (by omega)]
   ·rw [if_neg b]
    exact zdiZ t _ hd.2 (by omega)
theorem atoi_digits (l : Bytes) (hne : l ≠ []) (hd : l.all digit = true) : Lib.atoiAll l = if value l ≤ 9223372036854775807 then .ok (value l : Int) else .range := by
 cases l with
 | nil => exact absurd rfl hne
 | cons c t =>
  have hd' := hd
  simp only [List.all_cons, Bool.and_eq_true] at hd'
  have h1 : 48 ≤ c.toNat ∧ c.toNat ≤ 57 := by simpa [digit] using hd'.1
  have hp := zdiZ (c :: t) 0 hd (by omega)
  rw [← zlfZ] at hp
  unfold Lib.atoiAll
  simp only
  rw [if_neg (by omega)]
  unfold Lib.parseMag
  rw [if_neg (by simp), hp]
  by_cases a : value (c :: t) < 18446744073709551616
  ·rw [if_pos a]
   simp only
   by_cases b : value (c :: t) ≤ 9223372036854775807
   ·rw [if_pos b, if_neg (by omega), if_neg (by omega), if_neg (by omega)]
   ·rw [if_neg b, if_pos ⟨by omega, by omega⟩]
  ·rw [if_neg a, if_neg (by omega)]
end Lx
theorem atoiOk (d : ByteArray) (w : World) (hne : 0 < d.size) (hs : d.size ≤ 140737488351232) (hd : d.data.toList.all Lx.digit = true) (hv : Lx.value d.data.toList ≤ 9223372036854775807) :
  Calls Tryz.prog 159 #[.string d] w fun e w' => e = .returned (.tuple #[.int .i64 (Lx.value d.data.toList : Nat), .nilIface]) ∧ Below w.heap.size w w' := by
 have hl : d.data.toList ≠ [] := by
  intro e
  have := zgZ d
  rw [e] at this
  simp at this
  omega
 refine (Tryz.strconv_Atoi_ok d (by omega) _ (by rw [Lx.atoi_digits _ hl hd, if_pos hv]) w).mono ?_
 rintro e w' ⟨rfl, rfl | ⟨t, rfl⟩⟩
 ·exact ⟨rfl, Below.refl _ _⟩
 ·exact ⟨rfl, Lib.bytesWorld_below _ _ _⟩
theorem zjdZ (d : ByteArray) (w : World) (hG : GS w) (hne : 0 < d.size) (hs : d.size ≤ 140737488351232) (hd : d.data.toList.all Lx.digit = true) (hv : ¬ Lx.value d.data.toList ≤ 9223372036854775807) :
  Calls Tryz.prog 159 #[.string d] w fun e w' => (∃ (x : Int) (N : Nat), e = .returned (.tuple #[.int .i64 x, .iface 216 (.pointer (some ⟨N, 0, none⟩))])) ∧ Below w.heap.size w w' := by
 have hl : d.data.toList ≠ [] := by
  intro e
  have := zgZ d
  rw [e] at this
  simp at this
  omega
 obtain ⟨ev, hc, hev⟩ := hG.rng
 refine (Tryz.strconv_Atoi_range d (by omega) (by rw [Lx.atoi_digits _ hl hd, if_neg hv]) ev w hc hev).mono ?_
 rintro e w' ⟨N, rfl, _, _, hb⟩
 exact ⟨⟨_, N, rfl⟩, hb⟩
end Go.Proofs.YtdncljdfmdgdaaaGreatDoor
