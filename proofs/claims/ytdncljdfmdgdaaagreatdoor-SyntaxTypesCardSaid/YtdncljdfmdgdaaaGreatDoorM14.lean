/-
  The walk of coilref2.Names.
-/
/-
 The walk of coilref2.Names.
 The walk of coilkeep.Own.
 coilbook.Same at texts; the two lists of words.
 coilbook.Same at rows of texts.
 coilkeep.Texts.
 coilkeep.bools.
 The walks of is, name, great, bytes, unlike.
 The walk of typ at whatever right type.
-/
import Derived.Test.YtdncljdfmdgdaaaGreatDoorM13
import Derived.Test.YtdncljdfmdgdaaaGreatDoorM11
import Derived.Deep.RegionHeld3
import Derived.Test.YtdncljdfmdgdaaaGreatDoorM8
namespace Go.Proofs.YtdncljdfmdgdaaaGreatDoor
open Go.RowKit Go.Shelf
set_option linter.unusedSimpArgs false
set_option linter.unusedVariables false
end Go.Proofs.YtdncljdfmdgdaaaGreatDoor
namespace Go.Proofs.YtdncljdfmdgdaaaGreatDoor
open Go.RowKit Go.Shelf
set_option linter.unusedSimpArgs false
set_option linter.unusedVariables false
theorem Sub.since_mono {W : World} {B B' : Nat} (h : B' ≤ B) : Sub (only W (since B)) (only W (since B')) := zsZ fun g hg hs => ⟨zqZ.2 (by have := zqZ.1 hs; omega), rfl⟩
theorem Sub.since_keep {W W' : World} {B : Nat} (h : ∀ g, g < W.heap.size → B ≤ g → W'.heap[g]? = W.heap[g]?) : Sub (only W (since B)) (only W' (since B)) := zsZ fun g hg hs => ⟨hs, h g hg (zqZ.1 hs)⟩
structure OwnSt (L : Nat) (W : World) (c0 c1 c2 : Array Value) (w : World) : Prop where
 b : Below L W w
 k0 : w.heap[L]? = some (.cells c0 26 (0, 0))
 k1 : w.heap[L + 1]? = some (.cells c1 26 (0, 0))
 k2 : w.heap[L + 1 + 1]? = some (.cells c2 26 (0, 0))
theorem OwnSt.go {L : Nat} {W w w' : World} {c0 c1 c2 : Array Value} (h : OwnSt L W c0 c1 c2 w) (hb : Below w.heap.size w w') : OwnSt L W c0 c1 c2 w' :=
 have hl := zaZ h.k2
 ⟨h.b.trans (hb.mono (by omega)), (hb.block _ (by omega)).trans h.k0, (hb.block _ (by omega)).trans h.k1, (hb.block _ hl).trans h.k2⟩
theorem OwnSt.grown {L : Nat} {W w w' : World} {c0 c1 c2 : Array Value} (h : OwnSt L W c0 c1 c2 w) {r : Option Nat} (hg : w.grownBy w' r) (hr : ∀ j, r = some j → L + 1 + 1 + 1 ≤ j) : OwnSt L W c0 c1 c2 w' :=
 have hl := zaZ h.k2
 ⟨h.b.grown hg (by omega) (fun j e => by have := hr j e; omega), (hg.block _ (by omega) (fun e => by have := hr _ e.symm; omega)).trans h.k0, (hg.block _ (by omega) (fun e => by have := hr _ e.symm; omega)).trans h.k1, (hg.block _ hl (fun e => by have := hr _ e.symm; omega)).trans h.k2⟩
theorem OwnSt.set {L : Nat} {W w : World} {c0 c1 c2 : Array Value} (h : OwnSt L W c0 c1 c2 w) (j : Nat) (v : Value) : OwnSt L W c0 c1 (c2.setIfInBounds j v) (w.setCell ⟨L + 1 + 1, j, none⟩ v) :=
 ⟨h.b.setCell (by simp; omega) v, (Below.heap_setCell _ _ _ _ (by simp; omega)).trans h.k0, (Below.heap_setCell _ _ _ _ (by simp)).trans h.k1, heap_setCell_same _ _ _ _ _ _ h.k2⟩
theorem OwnSt.lt {L : Nat} {W w : World} {c0 c1 c2 : Array Value} (h : OwnSt L W c0 c1 c2 w) : L < w.heap.size ∧ L + 1 < w.heap.size ∧ L + 1 + 1 < w.heap.size := ⟨zaZ h.k0, zaZ h.k1, zaZ h.k2⟩
theorem Sub.since_set {L j : Nat} {w : World} {v : Value} : Sub (only w (since (L + 1 + 1 + 1))) (only (w.setCell ⟨L + 1 + 1, j, none⟩ v) (since (L + 1 + 1 + 1))) := Sub.since_keep fun g _ hB => Below.heap_setCell _ _ _ _ (by simp; omega)
theorem Sub.since_below {w w' : World} {B : Nat} (h : Below w.heap.size w w') : Sub (only w (since B)) (only w' (since B)) := Sub.since_keep fun g hg _ => h.block g hg
theorem zcjZ {w : World} {g t : Nat} {cs : Array Value} (h : w.heap[g]? = some (.cells cs t (0, 0))) : w.frozen? ⟨g, 0, none⟩ = false ∧ w.frozen? ⟨g, 1, none⟩ = false ∧ w.frozen? ⟨g, 2, none⟩ = false ∧ w.frozen? ⟨g, 3, none⟩ = false ∧ w.frozen? ⟨g, 4, none⟩ = false :=
 ⟨free_of h 0, free_of h 1, free_of h 2, free_of h 3, free_of h 4⟩
theorem IsTy.made2 {w : World} {k : Int} {nm : Lx.Bytes} {vn ve vp : Value} {ns : List Lx.Bytes} {es : List Bool} {ps : List Sx.Ty} (h1 : StrRow w vn ns) (h2 : BoolRow w ve es) (h3 : TyRow w vp ps) :
  IsTy w (.agg #[.int .i64 k, .string ⟨nm.toArray⟩, vn, ve, vp]) (.mk k nm ns es ps) := by
 obtain ⟨A, c, rfl, hc, hl⟩ := h3
 rw [IsTy]
 exact ⟨vn, ve, A, c, rfl, h1, h2, hc, hl⟩
def OwnOk (t : Sx.Ty) : Prop := ∀ (v : Value) (W : World), IsTy W v t →
 Calls Tryz.prog 26 #[v] W fun e W' => ∃ v', e = .returned v' ∧ IsTy (only W' (since W.heap.size)) v' t ∧ Below W.heap.size W W'
set_option maxRecDepth 100000 in
set_option maxHeartbeats 8000000 in
theorem zlzZ (t : Sx.Ty) (hsz : Sx.size t ≤ 1000000) (ih : ∀ p ∈ t.parts, OwnOk p) : OwnOk t := by
  intro v W ht
  obtain ⟨An, cn, Ae, ce, Ap, cp, rfl, hnm, hem, hp⟩ := ht.agg
  have hs1 := Sx.size_parts t
  have hp1 := Sx.length_size t.parts
  obtain ⟨nl, hnl⟩ : ∃ k, t.names.length = k := ⟨_, rfl⟩
  obtain ⟨el, hel⟩ : ∃ k, t.embeds.length = k := ⟨_, rfl⟩
  obtain ⟨k, hk⟩ : ∃ k, t.parts.length = k := ⟨_, rfl⟩
  obtain ⟨kd, hkd⟩ : ∃ k, t.kind = k := ⟨_, rfl⟩
  obtain ⟨nm, hnmm⟩ : ∃ k, t.name = k := ⟨_, rfl⟩
  rw [hnl] at hnm hs1
  rw [hel] at hem hs1
  rw [hk] at hp hp1
  rw [hkd, hnmm, hnl, hel, hk]
  have n1 : nl ≤ 1000000 := by omega
  have e1 : el ≤ 1000000 := by omega
  have k0 : (0 : Int) ≤ (k : Int) := by omega
  have k1 : (k : Int) ≤ 1000000 := by omega
  obtain ⟨L, hL⟩ : ∃ L, W.heap.size = L := ⟨_, rfl⟩
  have HNM := Lib.hid hnm
  have HEM := Lib.hid hem
  have HP := Lib.hid hp
  have HIH := Lib.hid ih
  have HK := Lib.hid hk
  have HKN := Lib.hid (show k ≤ 1000000 by omega)
  have HL := Lib.hid hL
  have HTT := Lib.hid (show t = .mk kd nm t.names t.embeds t.parts by cases t; subst hkd hnmm; rfl)
  clear hnm hem hp ih hk hkd hnmm hnl hel hs1 hp1 hsz ht
  go_enter Tryz.func26, Tryz.ntmps26
  go_upto_region 2 with (fail)
  obtain ⟨w3, hw3⟩ : ∃ w3, ((W.alloc (.cells #[.int .i64 kd, .string ⟨nm.toArray⟩, .slice An nl cn, .slice Ae el ce, .slice Ap k cp] 26)).alloc (.cells #[.int .i64 0, .string ⟨#[]⟩, .slice none 0 0, .slice none 0 0, .slice none 0 0] 26)).alloc (.cells #[.int .i64 kd, .string ⟨nm.toArray⟩, .slice none 0 0, .slice none 0 0, .slice none 0 0] 26) = w3 := ⟨_, rfl⟩
  rw [hw3]
  have hst : OwnSt L W #[.int .i64 kd, .string ⟨nm.toArray⟩, .slice An nl cn, .slice Ae el ce, .slice Ap k cp] #[.int .i64 0, .string ⟨#[]⟩, .slice none 0 0, .slice none 0 0, .slice none 0 0] #[.int .i64 kd, .string ⟨nm.toArray⟩, .slice none 0 0, .slice none 0 0, .slice none 0 0] w3 := by
    subst hL
    refine ⟨?_, ?_, ?_, ?_⟩
    · rw [← hw3]
      exact (((Below.refl _ W).alloc (Nat.le_refl _) _).alloc (by simp) _).alloc (by simp; omega) _
    · rw [← hw3]
      exact heap_alloc (heap_alloc (heap_alloc_new W _) _) _
    · rw [← hw3]
      have := heap_alloc_new (W.alloc (.cells #[.int .i64 kd, .string ⟨nm.toArray⟩, .slice An nl cn, .slice Ae el ce, .slice Ap k cp] 26)) (.cells #[.int .i64 0, .string ⟨#[]⟩, .slice none 0 0, .slice none 0 0, .slice none 0 0] 26)
      rw [show (W.alloc (.cells #[.int .i64 kd, .string ⟨nm.toArray⟩, .slice An nl cn, .slice Ae el ce, .slice Ap k cp] 26)).heap.size = W.heap.size + 1 by simp] at this
      exact heap_alloc this _
    · rw [← hw3]
      have := heap_alloc_new ((W.alloc (.cells #[.int .i64 kd, .string ⟨nm.toArray⟩, .slice An nl cn, .slice Ae el ce, .slice Ap k cp] 26)).alloc (.cells #[.int .i64 0, .string ⟨#[]⟩, .slice none 0 0, .slice none 0 0, .slice none 0 0] 26)) (.cells #[.int .i64 kd, .string ⟨nm.toArray⟩, .slice none 0 0, .slice none 0 0, .slice none 0 0] 26)
      rw [show ((W.alloc (.cells #[.int .i64 kd, .string ⟨nm.toArray⟩, .slice An nl cn, .slice Ae el ce, .slice Ap k cp] 26)).alloc (.cells #[.int .i64 0, .string ⟨#[]⟩, .slice none 0 0, .slice none 0 0, .slice none 0 0] 26)).heap.size = W.heap.size + 1 + 1 by simp] at this
      exact this
  have hsz3 : w3.heap.size = L + 1 + 1 + 1 := by rw [← hw3, ← hL]; simp
  have HS := Lib.hid hst
  have HSZ := Lib.hid hsz3
  clear hw3 hst hsz3
  obtain ⟨x0, x1, x2, x3, x4⟩ := zcZ HS.out.k0
  obtain ⟨y0, y1, y2, y3, y4⟩ := zcZ HS.out.k2
  obtain ⟨l1, l2, l3⟩ := HS.out.lt
  go_upto_region 3 with (first
    | (at_builtin; refine zdoZ rfl _ _ rfl rfl rfl (HNM.out.below (by rw [HL.out]; exact HS.out.b)) n1 ?_; intro AN cN w4 hr4 hb4; have hs4 := HS.out.go hb4; obtain ⟨m1, m2, m3⟩ := hs4.lt; obtain ⟨f0, f1, f2, f3, f4⟩ := zcjZ hs4.k2; obtain ⟨q0, q1, q2, q3, q4⟩ := zcZ hs4.k2))
  obtain ⟨w5, hw5⟩ : ∃ w5, w4.setCell ⟨L + 1 + 1, 2, none⟩ (.slice AN nl cN) = w5 := ⟨_, rfl⟩
  rw [hw5]
  have hs5 := hs4.set 2 (.slice AN nl cN)
  rw [hw5] at hs5
  have hr5 : StrRow (only w5 (since (L + 1 + 1 + 1))) (.slice AN nl cN) t.names := by
    rw [HSZ.out] at hr4
    rw [← hw5]
    exact hr4.sub Sub.since_set
  have hz5 : L + 1 + 1 + 1 ≤ w5.heap.size := by rw [← hw5]; simp [World.setCell]; omega
  have HS5 := Lib.hid hs5
  have HR5 := Lib.hid hr5
  clear hs4 hs5 hr4 hr5 hb4 hw5 f0 f1 f2 f3 f4 q0 q1 q2 q3 q4 m1 m2 m3 x0 x1 x2 x3 x4 y0 y1 y2 y3 y4 l1 l2 l3
  obtain ⟨x0, x1, x2, x3, x4⟩ := zcZ HS5.out.k0
  obtain ⟨y0, y1, y2, y3, y4⟩ := zcZ HS5.out.k2
  obtain ⟨l1, l2, l3⟩ := HS5.out.lt
  go_upto_region 4 with (first
    | (at_builtin; refine zdeZ rfl _ _ rfl rfl rfl (HEM.out.below (by rw [HL.out]; exact HS5.out.b)) e1 ?_; intro AE cE w6 hr6 hb6; have hs6 := HS5.out.go hb6; obtain ⟨m1, m2, m3⟩ := hs6.lt; obtain ⟨f0, f1, f2, f3, f4⟩ := zcjZ hs6.k2; obtain ⟨q0, q1, q2, q3, q4⟩ := zcZ hs6.k2))
  obtain ⟨w7, hw7⟩ : ∃ w7, w6.setCell ⟨L + 1 + 1, 3, none⟩ (.slice AE el cE) = w7 := ⟨_, rfl⟩
  rw [hw7]
  have hs7 := hs6.set 3 (.slice AE el cE)
  rw [hw7] at hs7
  have hr7 : BoolRow (only w7 (since (L + 1 + 1 + 1))) (.slice AE el cE) t.embeds := by
    rw [← hw7]
    exact (hr6.sub (Sub.since_mono hz5)).sub Sub.since_set
  have hq7 : StrRow (only w7 (since (L + 1 + 1 + 1))) (.slice AN nl cN) t.names := by
    rw [← hw7]
    exact (HR5.out.sub (Sub.since_below hb6)).sub Sub.since_set
  have hz7 : L + 1 + 1 + 1 ≤ w7.heap.size := by have := hb6.size; rw [← hw7]; simp [World.setCell]; omega
  have HS7 := Lib.hid hs7
  have HR7 := Lib.hid hr7
  have HQ7 := Lib.hid hq7
  clear hs6 hs7 hr6 hr7 hq7 hb6 hw7 f0 f1 f2 f3 f4 q0 q1 q2 q3 q4 m1 m2 m3 x0 x1 x2 x3 x4 y0 y1 y2 y3 y4 l1 l2 l3
  go_wp2_with fail
  obtain ⟨M, hM⟩ : ∃ M, w7.heap.size = M := ⟨_, rfl⟩
  have HM := Lib.hid hM
  rw [hM] at hz7
  clear hM
  go_loopg [4] k (fun i v wr => ∃ (m : Nat) (A : Option Addr) (c : Nat), i = k - m ∧ v = .int .i64 (m : Nat) ∧ m ≤ k ∧ OwnSt L W #[.int .i64 kd, .string ⟨nm.toArray⟩, .slice An nl cn, .slice Ae el ce, .slice Ap k cp] #[.int .i64 0, .string ⟨#[]⟩, .slice none 0 0, .slice none 0 0, .slice none 0 0] #[.int .i64 kd, .string ⟨nm.toArray⟩, .slice AN nl cN, .slice AE el cE, .slice A m c] wr ∧
    (∀ gg, L + 1 + 1 + 1 ≤ gg → gg < M → wr.heap[gg]? = w7.heap[gg]?) ∧ Own RTy 26 5 M none wr (.slice A m c) (t.parts.take m) ∧ M ≤ wr.heap.size)
  case atStart => exact ⟨0, none, 0, rfl, rfl, Nat.zero_le _, HS7.out, fun _ _ _ => rfl, Own.nil, Nat.le_of_eq HM.out.symm⟩
  case round =>
    obtain ⟨m, A, c, hi, rfl, hm, hs, hq, ho, hz⟩ := hrel
    have HI := Lib.hid hi
    have HSR := Lib.hid hs
    have HQR := Lib.hid hq
    have HO := Lib.hid ho
    have m0 : (0 : Int) ≤ (m : Int) := by omega
    clear hi hs hq ho
    obtain ⟨x0, x1, x2, x3, x4⟩ := zcZ HSR.out.k0
    obtain ⟨y0, y1, y2, y3, y4⟩ := zcZ HSR.out.k2
    obtain ⟨l1, l2, l3⟩ := HSR.out.lt
    by_cases hlt : m < k
    · have hmi : (m : Int) < (k : Int) := by omega
      have hmp : m < t.parts.length := by have := HK.out; omega
      obtain ⟨g, off, An1, cn1, Ae1, ce1, Aq, cq, rfl, hty, hc5⟩ := HP.out.spot m hmp
      rw [HL.out] at hc5
      obtain ⟨hg, c0, c1, c2, c3, c4⟩ := hc5 wr HSR.out.b
      have HTK := Lib.hid (List.take_succ_eq_append_getElem hmp)
      have HLM := Lib.hid (show (t.parts.take m).length = m by rw [List.length_take]; omega)
      have hmem := List.getElem_mem hmp
      obtain ⟨p, hpe⟩ : ∃ p, t.parts[m]'hmp = p := ⟨_, rfl⟩
      rw [hpe] at c0 c1 c2 c3 c4 hty hmem HTK
      have HRE := Lib.hid (fun X (hX : Below wr.heap.size wr X) => HIH.out p hmem _ X (IsTy.below (by rw [HL.out]; exact (HSR.out.go hX).b) _ _ hty))
      clear hmem hpe hty hc5
      have hdr : Below wr.heap.size wr wr.drew := Below.drewN (Below.refl _ _) 1
      have HEND := Lib.hid (show ∀ (w5 W9 w9 : World) (A9 : Option Addr) (c9 : Nat), Below wr.heap.size wr W9 → Own RTy 26 5 M none w9 (.slice A9 (m + 1) c9) (t.parts.take m ++ [p]) → W9.grownBy w9 (Value.slice A m c).ownBlock →
          (OwnSt L W #[.int .i64 kd, .string ⟨nm.toArray⟩, .slice An nl cn, .slice Ae el ce, .slice (some ⟨g, off, none⟩) k cp] #[.int .i64 0, .string ⟨#[]⟩, .slice none 0 0, .slice none 0 0, .slice none 0 0] #[.int .i64 kd, .string ⟨nm.toArray⟩, .slice AN nl cN, .slice AE el cE, .slice A m c] w9) ∧
          (OwnSt L W #[.int .i64 kd, .string ⟨nm.toArray⟩, .slice An nl cn, .slice Ae el ce, .slice (some ⟨g, off, none⟩) k cp] #[.int .i64 0, .string ⟨#[]⟩, .slice none 0 0, .slice none 0 0, .slice none 0 0] #[.int .i64 kd, .string ⟨nm.toArray⟩, .slice AN nl cN, .slice AE el cE, .slice A9 (m + 1) c9] (w9.setCell ⟨L + 1 + 1, 4, none⟩ (.slice A9 (m + 1) c9))) ∧
          (∀ gg, L + 1 + 1 + 1 ≤ gg → gg < M → (w9.setCell ⟨L + 1 + 1, 4, none⟩ (.slice A9 (m + 1) c9)).heap[gg]? = w7.heap[gg]?) ∧
          Own RTy 26 5 M none (w9.setCell ⟨L + 1 + 1, 4, none⟩ (.slice A9 (m + 1) c9)) (.slice A9 (m + 1) c9) (t.parts.take (m + 1)) ∧ M ≤ (w9.setCell ⟨L + 1 + 1, 4, none⟩ (.slice A9 (m + 1) c9)).heap.size by
        intro w5 W9 w9 A9 c9 hb9 hown9 hgr9
        have hrl := fun j e => (Own.lt HO.out j e).1
        have hs9 := (HSR.out.go hb9).grown hgr9 (fun j e => by have := hrl j e; omega)
        have hset : ∀ gg, gg ≠ L + 1 + 1 → (w9.setCell ⟨L + 1 + 1, 4, none⟩ (.slice A9 (m + 1) c9)).heap[gg]? = w9.heap[gg]? := fun gg h => Below.heap_setCell _ _ _ _ h
        refine ⟨hs9, hs9.set 4 _, fun gg h1 h2 => ?_, ?_, ?_⟩
        · rw [hset gg (by omega), hgr9.block gg (by have := hb9.size; omega) (fun e => by have := hrl gg e.symm; omega), hb9.block gg (by omega)]
          exact HQR.out gg h1 h2
        · rw [HTK.out]
          exact hown9.keep RTy.sub fun gg _ h _ => hset gg (by omega)
        · have := hb9.size
          have := hgr9.size
          simp [World.setCell]
          omega)
      go_upto_region 7 with (fail)
      go_region_law (first
        | (refine zlsZ (w := w5.alloc (.cells #[.int .i64 p.kind, .string ⟨p.name.toArray⟩, .slice B1 p.names.length d1, .slice B2 p.embeds.length d2, .slice B3 p.parts.length d3] 26)) RTy.sub rfl (.tmp 30) (.tmp 37) 24 rfl (Own.go RTy.sub HO.out HB9.out) HLM.out Tryz.underlying24 infoTy rfl (by decide) rfl rfl (c := 1) (k := w5.heap.size) rfl (by exact heap_alloc_new w5 _) rfl (by simp [Value.oneCell']) (B := wr.heap.size) HR9.out hz (by simp; omega) (fun b e => nomatch e) (fun b e => (Own.lt HO.out b e).2) (by omega) (by omega) ?_
           intro A9 c9 w9 hown9 hgr9
           obtain ⟨hs9, hfin⟩ := HEND.out w5 _ w9 A9 c9 HB9.out hown9 hgr9
           obtain ⟨y0, y1, y2, y3, y4⟩ := zcZ hs9.k2
           obtain ⟨f0, f1, f2, f3, f4⟩ := zcjZ hs9.k2
           obtain ⟨l1, l2, l3⟩ := hs9.lt
           have HFIN := Lib.hid hfin
           clear hown9 hgr9 hs9 hfin)
        | (go_simp
           go_at_call 26
           refine (HRE.out wr.drew hdr).mono ?_
           rintro e w5 ⟨v5, rfl, ht5, hb5⟩
           obtain ⟨B1, d1, B2, d2, B3, d3, rfl, -⟩ := id ht5.agg
           have hs5 := (HSR.out.go hdr).go hb5
           have hb9 : Below wr.heap.size wr (w5.alloc (.cells #[.int .i64 p.kind, .string ⟨p.name.toArray⟩, .slice B1 p.names.length d1, .slice B2 p.embeds.length d2, .slice B3 p.parts.length d3] 26)) := (hdr.trans hb5).alloc (hdr.trans hb5).size _
           have HB9 := Lib.hid hb9
           have HR9 := Lib.hid (show RTy (only (w5.alloc (.cells #[.int .i64 p.kind, .string ⟨p.name.toArray⟩, .slice B1 p.names.length d1, .slice B2 p.embeds.length d2, .slice B3 p.parts.length d3] 26)) (since wr.heap.size)) [.int .i64 p.kind, .string ⟨p.name.toArray⟩, .slice B1 p.names.length d1, .slice B2 p.embeds.length d2, .slice B3 p.parts.length d3] p from
             ⟨_, _, _, _, _, rfl, IsTy.sub (Sub.since_below (zdZ (World.grownBy_alloc w5 _ none))) _ _ ht5⟩)
           have hbs5 : wr.heap.size ≤ w5.heap.size := hb5.size
           obtain ⟨y0, y1, y2, y3, y4⟩ := zcZ hs5.k2
           obtain ⟨l1, l2, l3⟩ := hs5.lt
           clear ht5 hb5 hs5 hb9))
      all_goals
        obtain ⟨W10, hW10⟩ : ∃ W10, w9.setCell ⟨L + 1 + 1, 4, none⟩ (.slice A9 (m + 1) c9) = W10 := ⟨_, rfl⟩
        have hfin := HFIN.out
        rw [hW10] at hfin ⊢
        have HFN := Lib.hid hfin
        clear hW10 hfin
        go_wp2_with fail
        go_roundg (k - (m + 1))
        case measure => have := HI.out; omega
        case rel => exact ⟨m + 1, A9, c9, rfl, by simp, hlt, HFN.out⟩
    · have hmi : ¬ (m : Int) < (k : Int) := by omega
      have hfu := List.take_of_length_le (show t.parts.length ≤ m by have := HK.out; omega)
      have hres := HO.out
      rw [hfu] at hres
      obtain ⟨z0, z1, z2, z3, z4⟩ := zcZ HSR.out.k1
      obtain ⟨f0, f1, f2, f3, f4⟩ := zcjZ HSR.out.k1
      have HRES := Lib.hid hres
      clear hfu hres
      go_wp2_with fail
      obtain ⟨wz, hwz⟩ : ∃ wz, (((((wr.setCell ⟨L + 1, 0, none⟩ (.int .i64 kd)).setCell ⟨L + 1, 1, none⟩ (.string ⟨nm.toArray⟩)).setCell ⟨L + 1, 2, none⟩ (.slice AN nl cN)).setCell ⟨L + 1, 3, none⟩ (.slice AE el cE)).setCell ⟨L + 1, 4, none⟩ (.slice A m c)) = wz := ⟨_, rfl⟩
      rw [hwz]
      have hk1 := heap_setCell_same _ _ 4 _ _ (.slice A m c) (heap_setCell_same _ _ 3 _ _ (.slice AE el cE) (heap_setCell_same _ _ 2 _ _ (.slice AN nl cN) (heap_setCell_same _ _ 1 _ _ (.string ⟨nm.toArray⟩) (heap_setCell_same _ _ 0 _ _ (.int .i64 kd) HSR.out.k1))))
      have hbz : Below L W wz := by
        rw [← hwz]
        exact ((((HSR.out.b.setCell (by simp) _).setCell (by simp) _).setCell (by simp) _).setCell (by simp) _).setCell (by simp) _
      have hoth : ∀ gg, gg ≠ L + 1 → wz.heap[gg]? = wr.heap[gg]? := fun gg h => by
        rw [← hwz]
        exact (Below.heap_setCell _ _ _ _ h).trans ((Below.heap_setCell _ _ _ _ h).trans ((Below.heap_setCell _ _ _ _ h).trans ((Below.heap_setCell _ _ _ _ h).trans (Below.heap_setCell _ _ _ _ h))))
      rw [hwz] at hk1
      obtain ⟨q0, q1, q2, q3, q4⟩ := zcZ (show wz.heap[L + 1]? = some (.cells #[.int .i64 kd, .string ⟨nm.toArray⟩, .slice AN nl cN, .slice AE el cE, .slice A m c] 26 (0, 0)) from hk1)
      have hs7 : Sub (only w7 (since (L + 1 + 1 + 1))) (only wz (since L)) := zsZ fun gg hg hs => by
        have h1 := zqZ.1 hs
        refine ⟨zqZ.2 (by omega), ?_⟩
        rw [hoth gg (by omega)]
        exact HQR.out gg h1 (by have := HM.out; omega)
      have hsr : Sub (only wr (but M none none)) (only wz (since L)) := zsZ fun gg hg hs => by
        have h1 := (but_iff.1 hs).1
        refine ⟨zqZ.2 (by omega), ?_⟩
        rw [hoth gg (by omega)]
      refine bodyPost_ret (v := .agg #[.int .i64 kd, .string ⟨nm.toArray⟩, .slice AN nl cN, .slice AE el cE, .slice A m c]) (by simp [results, Tryz.results26, go_sem, q0, q1, q2, q3, q4]) rfl ⟨_, rfl, ?_, hbz⟩
      rw [HTT.out]
      exact IsTy.made2 (HQ7.out.sub hs7) (HR7.out.sub hs7) (HRES.out.tys.sub hsr)
theorem keepOwn : ∀ (n : Nat) (t : Sx.Ty), Sx.size t ≤ n → n ≤ 1000000 → OwnOk t
 | 0, t, h, _ => by have := Sx.size_pos t; omega
 | n + 1, t, h, h1 => zlzZ t (by omega) fun p hp => keepOwn n p (by
   have := Sx.size_mem hp
   have := Sx.size_parts t
   omega) (by omega)
end Go.Proofs.YtdncljdfmdgdaaaGreatDoor
namespace Go.Proofs.YtdncljdfmdgdaaaGreatDoor
open Go.RowKit Go.Shelf
set_option linter.unusedSimpArgs false
set_option linter.unusedVariables false
def StrsIn (w : World) (v : Value) (l : List Lx.Bytes) : Prop :=
 ∃ g c cur fr, v = .slice (some ⟨g, 0, none⟩) l.length c ∧ w.heap[g]? = some (.cells cur 9 fr) ∧ cur.toList.take l.length = l.map (fun s => Value.string ⟨s.toArray⟩)
theorem StrsIn.below {w w' : World} {v : Value} {ts : List Lx.Bytes} (h : StrsIn w v ts) (hb : Below w.heap.size w w') : StrsIn w' v ts := by
 obtain ⟨g, c, cur, fr, h1, h2, h3⟩ := h
 exact ⟨g, c, cur, fr, h1, (hb.block g (zaZ h2)).trans h2, h3⟩
theorem zmaZ (w : World) : Calls Tryz.prog 192 #[] w fun e w' =>
  e = .returned (.slice (some ⟨w.heap.size, 0, none⟩) 25 25) ∧ w' = w.alloc (.cells wordCells 9) := by
 go_enter Tryz.func192, Tryz.ntmps192
 go_wp2
 go_ret
 exact ⟨rfl, rfl⟩
end Go.Proofs.YtdncljdfmdgdaaaGreatDoor
namespace Go.Proofs.YtdncljdfmdgdaaaGreatDoor
open Go.RowKit Go.Shelf
set_option linter.unusedSimpArgs false
set_option linter.unusedVariables false
set_option maxHeartbeats 4000000 in
theorem ziqZ (ts us : List Lx.Bytes) (v u : Value) (w : World) (hv : StrRow w v ts) (hu : StrRow w u us) (hl : ts.length ≤ 1000000000) (hl2 : us.length ≤ 1000000000) :
  Calls Tryz.prog 16 #[v, u] w fun e w' => e = .returned (.bool (decide (ts = us))) ∧ Below w.heap.size w w' := by
 obtain ⟨A1, c1, rfl, hv'⟩ := hv
 obtain ⟨A2, c2, rfl, hu'⟩ := hu
 have HA := Lib.hid (show StrRow w (.slice A1 ts.length c1) ts from ⟨A1, c1, rfl, hv'⟩)
 have HB := Lib.hid (show StrRow w (.slice A2 us.length c2) us from ⟨A2, c2, rfl, hu'⟩)
 clear hv' hu'
 by_cases hlen : ts.length = us.length
 ·have hb : ((ts.length : Int) != (us.length : Int)) = false := by simp [hlen]
  have HL := Lib.hid hlen
  clear hlen
  go_enter Tryz.func16, Tryz.ntmps16
  go_wp2
  go_loopg [5] (ts.length) (fun n v wr => ∃ (m : Nat), n = ts.length - m ∧ v = .int .i64 (m : Int) ∧ m ≤ ts.length ∧ ts.take m = us.take m ∧ Below w.heap.size w wr)
  case atStart => exact ⟨0, rfl, rfl, Nat.zero_le _, by simp, Below.refl _ _⟩
  case round =>
   obtain ⟨m, hn, rfl, hm, he, hbl⟩ := hrel
   have HN := Lib.hid hn
   have HE := Lib.hid he
   clear hn he
   by_cases hlt : m < ts.length
   ·have hlt2 : m < us.length := by rw [← HL.out]; exact hlt
    have hi : (m : Int) < (ts.length : Int) := by omega
    have hi2 : (m : Int) < (us.length : Int) := by omega
    have hi0 : (0 : Int) ≤ (m : Int) := by omega
    have hmi : (m : Int) ≤ 1000000000 := by omega
    obtain ⟨g, off, rfl, hgl, t0⟩ := HA.out.cellAt hbl m hlt
    obtain ⟨g2, off2, rfl, hgl2, u0⟩ := HB.out.cellAt hbl m hlt2
    obtain ⟨t, ht⟩ : ∃ t, ts[m]'hlt = t := ⟨_, rfl⟩
    obtain ⟨x, hx⟩ : ∃ x, us[m]'hlt2 = x := ⟨_, rfl⟩
    rw [ht] at t0
    rw [hx] at u0
    have HT := Lib.hid ht
    have HX := Lib.hid hx
    clear ht hx
    cases hq : (t == x) with
    | true =>
     have htx : t = x := by simpa using hq
     have HS := Lib.hid (zciZ HE.out hlt hlt2 (by rw [HT.out, HX.out, htx]))
     clear htx
     go_wp2
     go_quiet (fail)
     go_wp2
     go_roundg (ts.length - (m + 1))
     case measure => have := HN.out; omega
     case rel => exact ⟨m + 1, rfl, by simp, hlt, HS.out, Below.drewN hbl _⟩
    | false =>
     have htx : t ≠ x := by simpa using hq
     have HS := Lib.hid (show decide (ts = us) = false by
      rw [decide_eq_false_iff_not]
      rintro rfl
      exact htx (HT.out.symm.trans HX.out))
     clear htx
     go_wp2
     go_quiet (fail)
     go_wp2
     go_ret
     rw [HS.out]
     exact ⟨rfl, Below.drewN hbl _⟩
   ·have hi : ¬ (m : Int) < (ts.length : Int) := by omega
    have HS := Lib.hid (show decide (ts = us) = true by
     rw [decide_eq_true_eq]
     have h1 := HE.out
     rwa [List.take_of_length_le (by omega), List.take_of_length_le (by have := HL.out; omega)] at h1)
    go_wp2
    go_ret
    rw [HS.out]
    exact ⟨rfl, hbl⟩
 ·have hb : ((ts.length : Int) != (us.length : Int)) = true := by simp; omega
  have HS := Lib.hid (show decide (ts = us) = false by
   rw [decide_eq_false_iff_not]
   rintro rfl
   exact hlen rfl)
  clear hlen
  go_enter Tryz.func16, Tryz.ntmps16
  go_wp2
  go_ret
  rw [HS.out]
  exact ⟨rfl, Below.refl _ _⟩
end Go.Proofs.YtdncljdfmdgdaaaGreatDoor
namespace Go.Proofs.YtdncljdfmdgdaaaGreatDoor
open Go.RowKit Go.Shelf
set_option linter.unusedSimpArgs false
set_option linter.unusedVariables false
set_option maxHeartbeats 4000000 in
theorem zjhZ (ts us : List Lx.Bytes) (v u : Value) (w : World) (hv : StrRow w v ts) (hu : StrRow w u us) (hl : ts.length ≤ 1000000000) (hl2 : us.length ≤ 1000000000) :
  Calls Tryz.prog 46 #[v, u] w fun e w' => e = .returned (.bool (decide (ts = us))) ∧ Below w.heap.size w w' := by
 obtain ⟨A1, c1, rfl, hv'⟩ := hv
 obtain ⟨A2, c2, rfl, hu'⟩ := hu
 have HA := Lib.hid (show StrRow w (.slice A1 ts.length c1) ts from ⟨A1, c1, rfl, hv'⟩)
 have HB := Lib.hid (show StrRow w (.slice A2 us.length c2) us from ⟨A2, c2, rfl, hu'⟩)
 clear hv' hu'
 by_cases hlen : ts.length = us.length
 ·have hb : ((ts.length : Int) != (us.length : Int)) = false := by simp [hlen]
  have HL := Lib.hid hlen
  clear hlen
  go_enter Tryz.func46, Tryz.ntmps46
  go_wp2
  go_loopg [5] (ts.length) (fun n v wr => ∃ (m : Nat), n = ts.length - m ∧ v = .int .i64 (m : Int) ∧ m ≤ ts.length ∧ ts.take m = us.take m ∧ Below w.heap.size w wr)
  case atStart => exact ⟨0, rfl, rfl, Nat.zero_le _, by simp, Below.refl _ _⟩
  case round =>
   obtain ⟨m, hn, rfl, hm, he, hbl⟩ := hrel
   have HN := Lib.hid hn
   have HE := Lib.hid he
   clear hn he
   by_cases hlt : m < ts.length
   ·have hlt2 : m < us.length := by rw [← HL.out]; exact hlt
    have hi : (m : Int) < (ts.length : Int) := by omega
    have hi2 : (m : Int) < (us.length : Int) := by omega
    have hi0 : (0 : Int) ≤ (m : Int) := by omega
    have hmi : (m : Int) ≤ 1000000000 := by omega
    obtain ⟨g, off, rfl, hgl, t0⟩ := HA.out.cellAt hbl m hlt
    obtain ⟨g2, off2, rfl, hgl2, u0⟩ := HB.out.cellAt hbl m hlt2
    obtain ⟨t, ht⟩ : ∃ t, ts[m]'hlt = t := ⟨_, rfl⟩
    obtain ⟨x, hx⟩ : ∃ x, us[m]'hlt2 = x := ⟨_, rfl⟩
    rw [ht] at t0
    rw [hx] at u0
    have HT := Lib.hid ht
    have HX := Lib.hid hx
    clear ht hx
    cases hq : (t == x) with
    | true =>
     have htx : t = x := by simpa using hq
     have HS := Lib.hid (zciZ HE.out hlt hlt2 (by rw [HT.out, HX.out, htx]))
     clear htx
     go_wp2
     go_quiet (fail)
     go_wp2
     go_roundg (ts.length - (m + 1))
     case measure => have := HN.out; omega
     case rel => exact ⟨m + 1, rfl, by simp, hlt, HS.out, Below.drewN hbl _⟩
    | false =>
     have htx : t ≠ x := by simpa using hq
     have HS := Lib.hid (show decide (ts = us) = false by
      rw [decide_eq_false_iff_not]
      rintro rfl
      exact htx (HT.out.symm.trans HX.out))
     clear htx
     go_wp2
     go_quiet (fail)
     go_wp2
     go_ret
     rw [HS.out]
     exact ⟨rfl, Below.drewN hbl _⟩
   ·have hi : ¬ (m : Int) < (ts.length : Int) := by omega
    have HS := Lib.hid (show decide (ts = us) = true by
     rw [decide_eq_true_eq]
     have h1 := HE.out
     rwa [List.take_of_length_le (by omega), List.take_of_length_le (by have := HL.out; omega)] at h1)
    go_wp2
    go_ret
    rw [HS.out]
    exact ⟨rfl, hbl⟩
 ·have hb : ((ts.length : Int) != (us.length : Int)) = true := by simp; omega
  have HS := Lib.hid (show decide (ts = us) = false by
   rw [decide_eq_false_iff_not]
   rintro rfl
   exact hlen rfl)
  clear hlen
  go_enter Tryz.func46, Tryz.ntmps46
  go_wp2
  go_ret
  rw [HS.out]
  exact ⟨rfl, Below.refl _ _⟩
end Go.Proofs.YtdncljdfmdgdaaaGreatDoor
namespace Go.Proofs.YtdncljdfmdgdaaaGreatDoor
open Go.RowKit Go.Shelf
set_option linter.unusedSimpArgs false
set_option linter.unusedVariables false
set_option maxHeartbeats 4000000 in
theorem zjiZ (ts us : List Bool) (v u : Value) (w : World) (hv : BoolRow w v ts) (hu : BoolRow w u us) (hl : ts.length ≤ 1000000000) (hl2 : us.length ≤ 1000000000) :
  Calls Tryz.prog 71 #[v, u] w fun e w' => e = .returned (.bool (decide (ts = us))) ∧ Below w.heap.size w w' := by
 obtain ⟨A1, c1, rfl, hv'⟩ := hv
 obtain ⟨A2, c2, rfl, hu'⟩ := hu
 have HA := Lib.hid (show BoolRow w (.slice A1 ts.length c1) ts from ⟨A1, c1, rfl, hv'⟩)
 have HB := Lib.hid (show BoolRow w (.slice A2 us.length c2) us from ⟨A2, c2, rfl, hu'⟩)
 clear hv' hu'
 by_cases hlen : ts.length = us.length
 ·have hb : ((ts.length : Int) != (us.length : Int)) = false := by simp [hlen]
  have HL := Lib.hid hlen
  clear hlen
  go_enter Tryz.func71, Tryz.ntmps71
  go_wp2
  go_loopg [5] (ts.length) (fun n v wr => ∃ (m : Nat), n = ts.length - m ∧ v = .int .i64 (m : Int) ∧ m ≤ ts.length ∧ ts.take m = us.take m ∧ Below w.heap.size w wr)
  case atStart => exact ⟨0, rfl, rfl, Nat.zero_le _, by simp, Below.refl _ _⟩
  case round =>
   obtain ⟨m, hn, rfl, hm, he, hbl⟩ := hrel
   have HN := Lib.hid hn
   have HE := Lib.hid he
   clear hn he
   by_cases hlt : m < ts.length
   ·have hlt2 : m < us.length := by rw [← HL.out]; exact hlt
    have hi : (m : Int) < (ts.length : Int) := by omega
    have hi2 : (m : Int) < (us.length : Int) := by omega
    have hi0 : (0 : Int) ≤ (m : Int) := by omega
    have hmi : (m : Int) ≤ 1000000000 := by omega
    obtain ⟨g, off, rfl, hgl, t0⟩ := HA.out.cellAt hbl m hlt
    obtain ⟨g2, off2, rfl, hgl2, u0⟩ := HB.out.cellAt hbl m hlt2
    obtain ⟨t, ht⟩ : ∃ t, ts[m]'hlt = t := ⟨_, rfl⟩
    obtain ⟨x, hx⟩ : ∃ x, us[m]'hlt2 = x := ⟨_, rfl⟩
    rw [ht] at t0
    rw [hx] at u0
    have HT := Lib.hid ht
    have HX := Lib.hid hx
    clear ht hx
    cases hq : (t == x) with
    | true =>
     have htx : t = x := by simpa using hq
     have hq2 : (t != x) = false := by simp [htx]
     have HS := Lib.hid (zciZ HE.out hlt hlt2 (by rw [HT.out, HX.out, htx]))
     clear htx
     go_wp2
     go_quiet (fail)
     go_wp2
     go_roundg (ts.length - (m + 1))
     case measure => have := HN.out; omega
     case rel => exact ⟨m + 1, rfl, by simp, hlt, HS.out, Below.drewN hbl _⟩
    | false =>
     have htx : t ≠ x := by simpa using hq
     have hq2 : (t != x) = true := by simp [bne, hq]
     have HS := Lib.hid (show decide (ts = us) = false by
      rw [decide_eq_false_iff_not]
      rintro rfl
      exact htx (HT.out.symm.trans HX.out))
     clear htx
     go_wp2
     go_quiet (fail)
     go_wp2
     go_ret
     rw [HS.out]
     exact ⟨rfl, Below.drewN hbl _⟩
   ·have hi : ¬ (m : Int) < (ts.length : Int) := by omega
    have HS := Lib.hid (show decide (ts = us) = true by
     rw [decide_eq_true_eq]
     have h1 := HE.out
     rwa [List.take_of_length_le (by omega), List.take_of_length_le (by have := HL.out; omega)] at h1)
    go_wp2
    go_ret
    rw [HS.out]
    exact ⟨rfl, hbl⟩
 ·have hb : ((ts.length : Int) != (us.length : Int)) = true := by simp; omega
  have HS := Lib.hid (show decide (ts = us) = false by
   rw [decide_eq_false_iff_not]
   rintro rfl
   exact hlen rfl)
  clear hlen
  go_enter Tryz.func71, Tryz.ntmps71
  go_wp2
  go_ret
  rw [HS.out]
  exact ⟨rfl, Below.refl _ _⟩
end Go.Proofs.YtdncljdfmdgdaaaGreatDoor
namespace Go.Proofs.YtdncljdfmdgdaaaGreatDoor
open Go.RowKit Go.Shelf Go.WideMaps
set_option linter.unusedSimpArgs false
set_option linter.unusedVariables false
def isTok (k : Int) (s : Lx.Bytes) : Bool := (Lx.join [⟨0, k, s, 0⟩]).2 != 1
def NM : Sx.Names := ⟨isTok 1, isTok 2, isTok 5⟩
set_option maxRecDepth 100000 in
set_option maxHeartbeats 1000000 in
theorem synIs (k : Int) (s : Lx.Bytes) (w : World) (hG : GS w) (hN : NG ≤ w.heap.size) (hs : s.length ≤ 1000000000) :
  Calls Tryz.prog 133 #[.int .i64 k, .string ⟨s.toArray⟩] w fun e w' => e = .returned (.bool (isTok k s)) ∧ Below w.heap.size w w' := by
 obtain ⟨w2, hw2⟩ : ∃ w2, w.alloc (.cells #[.int .i64 0, .int .i64 k, .string ⟨s.toArray⟩, .int .i64 0] 133) = w2 := ⟨_, rfl⟩
 have hg : Below w.heap.size w w2 := by rw [← hw2]; exact zdZ (World.grownBy_alloc w _ none)
 have hin : ToksIn w2 (.slice (some ⟨w.heap.size, 0, none⟩) 1 1) [⟨0, k, s, 0⟩] := .inr ⟨w.heap.size, 1, #[.int .i64 0, .int .i64 k, .string ⟨s.toArray⟩, .int .i64 0], (0, 0), rfl, by rw [← hw2]; exact heap_alloc_new w _, rfl⟩
 have hj := lexJoin [⟨0, k, s, 0⟩] _ w2 (hG.below hg) (Nat.le_trans hN hg.size) hin (by simp) (by intro t ht; simp at ht; subst ht; exact ⟨hs, by simp, by simp⟩)
 obtain ⟨r, hr⟩ : ∃ r, Lx.join [⟨0, k, s, 0⟩] = r := ⟨_, rfl⟩
 have hb : isTok k s = (r.2 != 1) := by unfold isTok; rw [hr]
 rw [hr] at hj
 rw [hb]
 have hc : ((r.2 : Int) != 1) = (r.2 != 1) := by rw [Bool.eq_iff_iff]; simp; omega
 have HC := Lib.hid hc
 clear hc
 have HG := Lib.hid hg
 have HJ := Lib.hid hj
 clear hr hb hin hj hg
 go_enter Tryz.func133, Tryz.ntmps133
 go_wp2_with (go_at_call 48; refine HJ.out.mono ?_; rintro e w3 ⟨rfl, h3⟩)
 go_ret
 rw [← HC.out]
 exact ⟨rfl, HG.out.trans (h3.mono HG.out.size)⟩
set_option maxRecDepth 100000 in
theorem synName (s : Lx.Bytes) (w : World) (hG : GS w) (hN : NG ≤ w.heap.size) (hs : s.length ≤ 1000000000) :
  Calls Tryz.prog 132 #[.string ⟨s.toArray⟩] w fun e w' => e = .returned (.bool (NM.small s)) ∧ Below w.heap.size w w' := by
 have hi := synIs 1 s w hG hN hs
 have HI := Lib.hid hi
 clear hi
 go_enter Tryz.func132, Tryz.ntmps132
 go_wp2_with (go_at_call 133; refine HI.out.mono ?_; rintro e w3 ⟨rfl, h3⟩)
 go_ret
 exact ⟨rfl, h3⟩
set_option maxRecDepth 100000 in
theorem zmbZ (s : Lx.Bytes) (w : World) (hG : GS w) (hN : NG ≤ w.heap.size) (hs : s.length ≤ 1000000000) :
  Calls Tryz.prog 107 #[.string ⟨s.toArray⟩] w fun e w' => e = .returned (.bool (NM.great s)) ∧ Below w.heap.size w w' := by
 have hi := synIs 2 s w hG hN hs
 have HI := Lib.hid hi
 clear hi
 go_enter Tryz.func107, Tryz.ntmps107
 go_wp2_with (go_at_call 133; refine HI.out.mono ?_; rintro e w3 ⟨rfl, h3⟩)
 go_ret
 exact ⟨rfl, h3⟩
set_option maxRecDepth 100000 in
theorem zmcZ (s : Lx.Bytes) (w : World) (hG : GS w) (hN : NG ≤ w.heap.size) (hs : s.length ≤ 1000000000) :
  Calls Tryz.prog 134 #[.string ⟨s.toArray⟩] w fun e w' => e = .returned (.bool (NM.said s)) ∧ Below w.heap.size w w' := by
 have hi := synIs 5 s w hG hN hs
 have HI := Lib.hid hi
 clear hi
 go_enter Tryz.func134, Tryz.ntmps134
 go_wp2_with (go_at_call 133; refine HI.out.mono ?_; rintro e w3 ⟨rfl, h3⟩)
 go_ret
 exact ⟨rfl, h3⟩
theorem Sx.apart_iff (N : Sx.Names) : ∀ l : List Lx.Bytes, Sx.apart N l = true ↔ (∀ s ∈ l, N.small s = true) ∧ l.Nodup
 | [] => by simp [Sx.apart]
 | s :: l => by
  rw [Sx.apart, Bool.and_eq_true, Bool.and_eq_true, Sx.apart_iff N l, List.nodup_cons]
  simp only [Bool.not_eq_true', List.contains_eq_mem, decide_eq_false_iff_not, List.mem_cons, forall_eq_or_imp]
  constructor
  ·rintro ⟨a, b, c, d⟩; exact ⟨⟨a, c⟩, b, d⟩
  ·rintro ⟨⟨a, c⟩, b, d⟩; exact ⟨a, b, c, d⟩
def Counts (b : Nat) (l : List Lx.Bytes) (w : World) : Prop := ∃ n, ∃ D : DataW Unit, n ≤ l.length ∧ w.ownsMap Tryz.prog 9 (plainElem Tryz.prog 3) b n D ∧ Maps.IsMap D ∧ ∀ s, D.atKey (.string s) (.lit (.int .i64 0)) = .lit (.int .i64 (l.count s : Nat))
theorem Counts.kept {b : Nat} {l : List Lx.Bytes} {w w' : World} (h : Counts b l w) (hg : w.grownBy w' none) : Counts b l w' := by
 obtain ⟨n, D, hn, hm, hD, hat⟩ := h
 exact ⟨n, D, hn, hm.kept hg (by simp), hD, hat⟩
theorem Counts.below {b : Nat} {l : List Lx.Bytes} {w w' : World} (h : Counts b l w) (hg : Below w.heap.size w w') : Counts b l w' := h.kept (zoZ hg)
set_option maxRecDepth 100000 in
theorem Counts.look {b : Nat} {l : List Lx.Bytes} {w : World} (h : Counts b l w) (s : Lx.Bytes) (hs : s.length ≤ 140737488351232) :
  (Instr.lookup 107 (.map (some b)) (.string ⟨s.toArray⟩) false).run Tryz.prog w = .ok (.int .i64 (l.count s : Nat)) w := by
 obtain ⟨n, D, hn, hm, hD, hat⟩ := h
 have hkey : keyOf Tryz.prog 9 (.string ⟨s.toArray⟩) = some (.string s) := by
  simpa using keyOf_string_mk (P := Tryz.prog) Tryz.underlying9 (s := ⟨s.toArray⟩) (by simp [ByteArray.size, maxLen]; omega)
 obtain ⟨c, hlk, hc, wc⟩ := hm.lookup_int (Maps.string_keyed (P := Tryz.prog) Tryz.underlying9) Tryz.underlying107 Tryz.underlying3 (zeroInt _) hkey
 rw [hat s] at hc
 injection hc with hc
 injection hc with _ hc
 subst hc
 exact hlk
set_option maxRecDepth 100000 in
theorem zhbZ {ops : Array Oper} {rest : List Oper} {o : Oper} {a : Act} {Q : Exit → Act → World → Prop} {b : Nat} {l : List Lx.Bytes} {w : World} (h : Counts b l w) (s : Lx.Bytes) (hs : s.length ≤ 140737488351232) (hl : l.length ≤ 1000000)
  (hg : o.guard = none) (m x v : Operand) (hop : o.op = Op.mapUpdate 107 m x v) (hm : a.eval m = .map (some b)) (hx : a.eval x = .string ⟨s.toArray⟩) {c : Int} (hv : a.eval v = .int .i64 c) (hc : c = (l.count s : Int) + 1)
  (hK : ∀ w', Counts b (l ++ [s]) w' → w.grownBy w' (some b) → wpList Tryz.prog ops Q rest (a.put o.dst undef) w') : wpList Tryz.prog ops Q (o :: rest) a w := by
 obtain ⟨n, D, hn, hown, hD, hat⟩ := h
 have hkey : keyOf Tryz.prog 9 (.string ⟨s.toArray⟩) = some (.string s) := by
  simpa using keyOf_string_mk (P := Tryz.prog) Tryz.underlying9 (s := ⟨s.toArray⟩) (by simp [ByteArray.size, maxLen]; omega)
 have hcl := List.count_le_length (a := s) (l := l)
 refine wpList_mapUpdate_own _ hg m x v 107 hop 9 3 (Maps.string_keyed (P := Tryz.prog) Tryz.underlying9) Tryz.underlying107 _ b n _ hm hown (by unfold maxLen; omega) _ _ _ hx hv hkey _ [] (plainElem_int Tryz.underlying3 (wrapOk c (by omega) (by omega))) ?_
 intro w' h1 h2
 subst hc
 refine hK w' ⟨n + 1, _, by simp; omega, h1, hD.put _ _, fun t => ?_⟩ h2
 rw [List.count_append]
 by_cases hts : t = s
 ·subst hts
  rw [Maps.atKey_put_same hD (by trivial)]
  simp
 ·rw [Maps.atKey_put_other (by intro e; injection e with e; exact hts e), hat t]
  have : List.count t [s] = 0 := by rw [List.count_eq_zero]; simpa using hts
  rw [this, Nat.add_zero]
set_option maxRecDepth 100000 in
set_option maxHeartbeats 4000000 in
theorem zdpZ (ns : List Lx.Bytes) (v : Value) (w : World) (hG : GS w) (hN : NG ≤ w.heap.size) (hv : StrRow w v ns) (hl : ns.length ≤ 1000000) (hs : ∀ s ∈ ns, s.length ≤ 1000000000) :
  Calls Tryz.prog 108 #[v] w fun e w' => e = .returned (.bool (Sx.apart NM ns)) ∧ Below w.heap.size w w' := by
 have hmm := @run_makeMap Tryz.prog
 obtain ⟨A, c, rfl, hi⟩ := hv
 have hv : StrRow w (.slice A ns.length c) ns := ⟨A, c, rfl, hi⟩
 have HV := Lib.hid hv
 have HG := Lib.hid hG
 have HS := Lib.hid hs
 obtain ⟨L, hL⟩ : ∃ L, w.heap.size = L := ⟨_, rfl⟩
 obtain ⟨w2, hw2⟩ : ∃ w2, w.alloc (.map #[] 0) = w2 := ⟨_, rfl⟩
 have hc0 : Counts L [] w2 := ⟨0, .map [], Nat.le_refl _, by rw [← hw2, ← hL]; exact World.ownsMap_made w _ _ _, Maps.isMap_empty, fun s => rfl⟩
 have hb0 : Below L w w2 := by rw [← hw2, ← hL]; exact zdZ (World.grownBy_alloc w _ none)
 have hl2 : L < w2.heap.size := by rw [← hw2]; simp; omega
 have HC0 := Lib.hid hc0
 have HB0 := Lib.hid hb0
 have HL := Lib.hid hL
 have hNL : NG ≤ L := by omega
 clear hv hi hG hs hc0 hb0
 go_enter Tryz.func108, Tryz.ntmps108
 go_wp2_with fail
 go_loopg [9] (ns.length) (fun i v wr => ∃ (m : Nat), i = ns.length - m ∧ v = .int .i64 (m : Int) ∧ m ≤ ns.length ∧ Counts L (ns.take m) wr ∧ Below L w wr ∧ L < wr.heap.size ∧ (∀ s ∈ ns.take m, NM.small s = true) ∧ (ns.take m).Nodup)
 case atStart => exact ⟨0, rfl, rfl, Nat.zero_le _, HC0.out, HB0.out, hl2, by simp, by simp⟩
 case round =>
  obtain ⟨m, hi, rfl, hm, hC, hb, hlr, hsm, hnd⟩ := hrel
  have HI := Lib.hid hi
  have HC := Lib.hid hC
  have HB := Lib.hid hb
  have HSM := Lib.hid hsm
  have HND := Lib.hid hnd
  have m0 : (0 : Int) ≤ (m : Int) := by omega
  clear hi hC hb hsm hnd
  by_cases hlt : m < ns.length
  ·have hmi : (m : Int) < (ns.length : Int) := by omega
   obtain ⟨g, off, rfl, hsp⟩ := HV.out.spot m hlt
   obtain ⟨q0, q1⟩ := hsp wr (by rw [HL.out]; exact HB.out)
   have htk := List.take_succ_eq_append_getElem hlt
   have hmem := List.getElem_mem hlt
   obtain ⟨s, hse⟩ : ∃ s, ns[m]'hlt = s := ⟨_, rfl⟩
   rw [hse] at q1 htk hmem
   have hsl := HS.out s hmem
   have hlk := HC.out.look s (by omega)
   obtain ⟨k, hk⟩ : ∃ k, (ns.take m).count s = k := ⟨_, rfl⟩
   have hkl : k ≤ 1000000 := by have := List.count_le_length (a := s) (l := ns.take m); simp at this; omega
   have hki : (k : Int) ≤ 1000000 := by omega
   have hk0 : (0 : Int) ≤ (k : Int) := by omega
   rw [hk] at hlk
   have HTK := Lib.hid htk
   have HK := Lib.hid hk
   have HMEM := Lib.hid hmem
   clear htk hk hmem hsp hse
   go_wp2_with (at_mapUpdate; refine zhbZ HC.out s (by omega) (by simp; omega) rfl _ _ _ rfl rfl rfl rfl (by rw [HK.out]) ?_)
   intro w3 hC3 hg3
   have hb3 : Below L w w3 := HB.out.grown hg3 (by omega) (fun j e => by injection e with e; omega)
   have hG3 := HG.out.below (by rw [HL.out]; exact hb3)
   have hlk3 := hC3.look s (by omega)
   have hct : (ns.take m ++ [s]).count s = k + 1 := by rw [List.count_append, HK.out]; simp
   rw [hct] at hlk3
   have hsz3 := hg3.size
   have hname := synName s w3 hG3 (by omega) hsl
   have HG3 := Lib.hid hg3
   have HC3 := Lib.hid hC3
   have HB3 := Lib.hid hb3
   have HNM := Lib.hid hname
   obtain ⟨kk, hkk⟩ : ∃ kk, k + 1 = kk := ⟨_, rfl⟩
   rw [hkk] at hlk3
   have HKK := Lib.hid hkk
   clear hg3 hC3 hb3 hG3 hct hname hlk hkk
   by_cases hz : k = 0
   ·have hgt : decide ((1 : Int) < (kk : Int)) = false := by simp; have := HKK.out; omega
    have hgt2 : ¬ (1 : Int) < (kk : Int) := by have := HKK.out; omega
    have HZ := Lib.hid hz
    clear hz
    cases hsmall : NM.small s with
    | true =>
     rw [hsmall] at HNM
     have HSMALL := Lib.hid hsmall
     clear hsmall
     go_wp2_with (go_at_call 132; refine HNM.out.mono ?_; rintro e w4 ⟨rfl, hb4⟩)
     go_roundg (ns.length - (m + 1))
     case measure => have := HI.out; omega
     case rel =>
      refine ⟨m + 1, rfl, by simp, hlt, ?_, HB3.out.trans (hb4.mono (by omega)), Nat.lt_of_lt_of_le (by omega) hb4.size, ?_, ?_⟩
      ·rw [HTK.out]; exact HC3.out.below hb4
      ·rw [HTK.out]
       intro t ht
       rcases List.mem_append.1 ht with h | h
       ·exact HSM.out t h
       ·rw [List.mem_singleton] at h; rw [h]; exact HSMALL.out
      ·rw [HTK.out, List.nodup_append]
       refine ⟨HND.out, by simp, ?_⟩
       intro a ha b hb hab
       rw [List.mem_singleton] at hb
       subst hb hab
       have := List.count_eq_zero.1 (HK.out.trans HZ.out)
       exact this ha
    | false =>
     rw [hsmall] at HNM
     have HF := Lib.hid (show Sx.apart NM ns = false by
      cases h : Sx.apart NM ns with
      | false => rfl
      | true => have := ((Sx.apart_iff _ _).1 h).1 s HMEM.out; rw [hsmall] at this; cases this)
     clear hsmall
     go_wp2_with (go_at_call 132; refine HNM.out.mono ?_; rintro e w4 ⟨rfl, hb4⟩)
     go_ret
     rw [HF.out, HL.out]
     exact ⟨rfl, HB3.out.trans (hb4.mono (by omega))⟩
   ·have hgt : decide ((1 : Int) < (kk : Int)) = true := by simp; have := HKK.out; omega
    have hgt2 : (1 : Int) < (kk : Int) := by have := HKK.out; omega
    have HF := Lib.hid (show Sx.apart NM ns = false by
     cases h : Sx.apart NM ns with
     | false => rfl
     | true =>
      have hn := ((Sx.apart_iff _ _).1 h).2
      have h2 : (ns.take m ++ [s]).Nodup := by rw [← HTK.out]; exact hn.sublist (List.take_sublist _ _)
      rw [List.nodup_append] at h2
      have h3 : s ∈ ns.take m := Decidable.byContradiction fun hne => by
       have := List.count_eq_zero.2 hne
       have := HK.out
       omega
      exact absurd rfl (h2.2.2 s h3 s (by simp)))
    go_wp2_with fail
    go_ret
    rw [HF.out, HL.out]
    exact ⟨rfl, HB3.out⟩
  ·have hmi : ¬ (m : Int) < (ns.length : Int) := by omega
   have HT := Lib.hid (show Sx.apart NM ns = true by
    rw [Sx.apart_iff]
    have h1 := HSM.out
    have h2 := HND.out
    rw [List.take_of_length_le (by omega)] at h1 h2
    exact ⟨h1, h2⟩)
   go_wp2_with fail
   go_ret
   rw [HT.out]
   exact ⟨rfl, HB.out⟩
end Go.Proofs.YtdncljdfmdgdaaaGreatDoor
namespace Go.Proofs.YtdncljdfmdgdaaaGreatDoor
open Go.RowKit Go.Shelf Go.WideMaps
set_option linter.unusedSimpArgs false
set_option linter.unusedVariables false
theorem Sx.shape_kind {N : Sx.Names} {k : Int} {n : Lx.Bytes} {ns : List Lx.Bytes} {es : List Bool} {ps : List Sx.Ty} (h : Sx.shape N k n ns es ps = true) : k = 1 ∨ k = 2 ∨ k = 3 ∨ k = 4 ∨ k = 5 ∨ k = 6 ∨ k = 7 ∨ k = 8 := by
 unfold Sx.shape at h
 split at h
 ·omega
 ·split at h
  ·omega
  ·split at h
   ·omega
   ·split at h
    ·omega
    ·split at h
     ·omega
     ·split at h
      ·omega
      ·cases h
theorem zckZ (N : Sx.Names) (hN : Sx.NamesOk N) (W0 : World) (b : Nat) : ∀ (n : Nat) (t : Sx.Ty), Sx.size t ≤ n → TypOk N W0 b t ∧ SigOk N W0 b t := by
 intro n
 induction n with
 | zero => intro t h; have := Sx.size_pos t; omega
 | succ n ih =>
  intro t hn
  have hp : ∀ p ∈ t.parts, TypOk N W0 b p ∧ SigOk N W0 b p := by
   intro p hp
   refine ih p ?_
   have := Sx.size_mem hp
   have := Sx.size_parts t
   omega
  have hsig := synSig N W0 b t (fun p h => (hp p h).1)
  refine ⟨?_, hsig⟩
  intro d v c l w hr ht h hc
  obtain ⟨d', hd, hr', hsh⟩ := Sx.right_parts hr
  rcases Sx.shape_kind hsh with hk | hk | hk | hk | hk | hk | hk | hk
  ·exact synTyp1 N hN W0 b t hk d v c l w hr ht h hc
  ·exact synTyp2 N hN W0 b t hk d v c l w hr ht h hc
  ·exact synTyp3 N hN W0 b t hk d v c l w hr ht h hc
  ·exact synTyp4 N hN W0 b t hk d v c l w hr ht h hc
  ·exact synTyp5 N hN W0 b t (fun p h => (hp p h).1) hk d v c l w hr ht h hc
  ·exact synTyp6 N hN W0 b t (fun p h => (hp p h).1) hk d v c l w hr ht h hc
  ·exact synTyp7 N hN W0 b t hsig hk d v c l w hr ht h hc
  ·exact synTyp8 N hN W0 b t (fun p h => (hp p h).2) hk d v c l w hr ht h hc
end Go.Proofs.YtdncljdfmdgdaaaGreatDoor
