/-
  The walk of coilkeep.Own.
  SyntaxDeep: the boxes and what lies beside them.
  The walk of coilkeep.SizeType.
  What an argument of chapter 2 is, out of the row's condition: types.
  The walks of coilref2.Nodes, Depth.
  The walk of syntax.Names.
-/
import Derived.Test.YtdncljdfmdgdaaaGreatDoorM8
import Derived.Test.YtdncljdfmdgdaaaGreatDoorM10
import Derived.Deep.RegionHeld3
import Derived.Test.YtdncljdfmdgdaaaGreatDoorM23
namespace Go.Proofs.YtdncljdfmdgdaaaGreatDoor
open Go.RowKit Go.Shelf
set_option linter.unusedSimpArgs false
set_option linter.unusedVariables false

theorem Sub.since_mono {W : World} {B B' : Nat} (h : B' ≤ B) : Sub (only W (since B)) (only W (since B')) := only_keep fun g hg hs => ⟨since_iff.2 (by have := since_iff.1 hs; omega), rfl⟩
/-- What lies from B on stays, if those blocks do. -/
theorem Sub.since_keep {W W' : World} {B : Nat} (h : ∀ g, g < W.heap.size → B ≤ g → W'.heap[g]? = W.heap[g]?) : Sub (only W (since B)) (only W' (since B)) := only_keep fun g hg hs => ⟨hs, h g hg (since_iff.1 hs)⟩
theorem Sub.but_since {W : World} {B : Nat} : Sub (only W (but B none none)) (only W (since B)) := only_keep fun g hg hs => ⟨since_iff.2 (but_iff.1 hs).1, rfl⟩

/-- The three blocks of a call that copies a type. -/
structure OwnSt (L : Nat) (W : World) (c0 c1 c2 : Array Value) (w : World) : Prop where
  b : Below L W w
  k0 : w.heap[L]? = some (.cells c0 26 (0, 0))
  k1 : w.heap[L + 1]? = some (.cells c1 26 (0, 0))
  k2 : w.heap[L + 1 + 1]? = some (.cells c2 26 (0, 0))
theorem OwnSt.go {L : Nat} {W w w' : World} {c0 c1 c2 : Array Value} (h : OwnSt L W c0 c1 c2 w) (hb : Below w.heap.size w w') : OwnSt L W c0 c1 c2 w' :=
  have hl := lt_of_block h.k2
  ⟨h.b.trans (hb.mono (by omega)), (hb.block _ (by omega)).trans h.k0, (hb.block _ (by omega)).trans h.k1, (hb.block _ hl).trans h.k2⟩
theorem OwnSt.grown {L : Nat} {W w w' : World} {c0 c1 c2 : Array Value} (h : OwnSt L W c0 c1 c2 w) {r : Option Nat} (hg : w.grownBy w' r) (hr : ∀ j, r = some j → L + 1 + 1 + 1 ≤ j) : OwnSt L W c0 c1 c2 w' :=
  have hl := lt_of_block h.k2
  ⟨h.b.grown hg (by omega) (fun j e => by have := hr j e; omega), (hg.block _ (by omega) (fun e => by have := hr _ e.symm; omega)).trans h.k0, (hg.block _ (by omega) (fun e => by have := hr _ e.symm; omega)).trans h.k1, (hg.block _ hl (fun e => by have := hr _ e.symm; omega)).trans h.k2⟩
theorem OwnSt.set {L : Nat} {W w : World} {c0 c1 c2 : Array Value} (h : OwnSt L W c0 c1 c2 w) (j : Nat) (v : Value) : OwnSt L W c0 c1 (c2.setIfInBounds j v) (w.setCell ⟨L + 1 + 1, j, none⟩ v) :=
  ⟨h.b.setCell (by simp; omega) v, (Below.heap_setCell _ _ _ _ (by simp; omega)).trans h.k0, (Below.heap_setCell _ _ _ _ (by simp)).trans h.k1, heap_setCell_same _ _ _ _ _ _ h.k2⟩
theorem OwnSt.lt {L : Nat} {W w : World} {c0 c1 c2 : Array Value} (h : OwnSt L W c0 c1 c2 w) : L < w.heap.size ∧ L + 1 < w.heap.size ∧ L + 1 + 1 < w.heap.size := ⟨lt_of_block h.k0, lt_of_block h.k1, lt_of_block h.k2⟩
theorem Sub.since_set {L j : Nat} {w : World} {v : Value} : Sub (only w (since (L + 1 + 1 + 1))) (only (w.setCell ⟨L + 1 + 1, j, none⟩ v) (since (L + 1 + 1 + 1))) := Sub.since_keep fun g _ hB => Below.heap_setCell _ _ _ _ (by simp; omega)
theorem Sub.since_below {w w' : World} {B : Nat} (h : Below w.heap.size w w') : Sub (only w (since B)) (only w' (since B)) := Sub.since_keep fun g hg _ => h.block g hg
theorem five_free {w : World} {g t : Nat} {cs : Array Value} (h : w.heap[g]? = some (.cells cs t (0, 0))) : w.frozen? ⟨g, 0, none⟩ = false ∧ w.frozen? ⟨g, 1, none⟩ = false ∧ w.frozen? ⟨g, 2, none⟩ = false ∧ w.frozen? ⟨g, 3, none⟩ = false ∧ w.frozen? ⟨g, 4, none⟩ = false :=
  ⟨free_of h 0, free_of h 1, free_of h 2, free_of h 3, free_of h 4⟩

theorem IsTy.made2 {w : World} {k : Int} {nm : Lx.Bytes} {vn ve vp : Value} {ns : List Lx.Bytes} {es : List Bool} {ps : List Sx.Ty} (h1 : StrRow w vn ns) (h2 : BoolRow w ve es) (h3 : TyRow w vp ps) :
    IsTy w (.agg #[.int .i64 k, .string ⟨nm.toArray⟩, vn, ve, vp]) (.mk k nm ns es ps) := by
  obtain ⟨A, c, rfl, hc, hl⟩ := h3
  rw [IsTy]
  exact ⟨vn, ve, A, c, rfl, h1, h2, hc, hl⟩
def OwnOk (t : Sx.Ty) : Prop := ∀ (v : Value) (W : World), IsTy W v t →
  Calls Tryz.prog 26 #[v] W fun e W' => ∃ v', e = .returned v' ∧ IsTy (only W' (since W.heap.size)) v' t ∧ Below W.heap.size W W'

set_option maxRecDepth 100000 in
set_option maxHeartbeats 8000000 in
theorem keepOwn1 (t : Sx.Ty) (hsz : Sx.size t ≤ 1000000) (ih : ∀ p ∈ t.parts, OwnOk p) : OwnOk t := by
  intro v W ht
  obtain ⟨An, cn, Ae, ce, Ap, cp, rfl, hnm, hem, hp⟩ := ht.agg
  have hs1 := Sx.size_parts t
  have hp1 := Sx.length_size t.parts
  obtain ⟨nl, hnl⟩ : ∃ k, t.names.length = k := ⟨_, rfl⟩
  obtain ⟨el, hel⟩ : ∃ k, t.embeds.length = k := ⟨_, rfl⟩
  obtain ⟨k, hk⟩ : ∃ k, t.parts.length = k := ⟨_, rfl⟩
  obtain ⟨kd, hkd⟩ : ∃ k, t.kind = k := ⟨_, rfl⟩
  obtain ⟨nm, hnmm⟩ : ∃ k, t.name = k := ⟨_, rfl⟩
  rw [hnl] at hnm hs1
  rw [hel] at hem hs1
  rw [hk] at hp hp1
  rw [hkd, hnmm, hnl, hel, hk]
  have n1 : nl ≤ 1000000 := by omega
  have e1 : el ≤ 1000000 := by omega
  have k0 : (0 : Int) ≤ (k : Int) := by omega
  have k1 : (k : Int) ≤ 1000000 := by omega
  obtain ⟨L, hL⟩ : ∃ L, W.heap.size = L := ⟨_, rfl⟩
  have HNM := Lib.hid hnm
  have HEM := Lib.hid hem
  have HP := Lib.hid hp
  have HIH := Lib.hid ih
  have HK := Lib.hid hk
  have HKN := Lib.hid (show k ≤ 1000000 by omega)
  have HL := Lib.hid hL
  have HTT := Lib.hid (show t = .mk kd nm t.names t.embeds t.parts by cases t; subst hkd hnmm; rfl)
  clear hnm hem hp ih hk hkd hnmm hnl hel hs1 hp1 hsz ht
  go_enter Tryz.func26, Tryz.ntmps26
  go_upto_region 2 with (fail)
  obtain ⟨w3, hw3⟩ : ∃ w3, ((W.alloc (.cells #[.int .i64 kd, .string ⟨nm.toArray⟩, .slice An nl cn, .slice Ae el ce, .slice Ap k cp] 26)).alloc (.cells #[.int .i64 0, .string ⟨#[]⟩, .slice none 0 0, .slice none 0 0, .slice none 0 0] 26)).alloc (.cells #[.int .i64 kd, .string ⟨nm.toArray⟩, .slice none 0 0, .slice none 0 0, .slice none 0 0] 26) = w3 := ⟨_, rfl⟩
  rw [hw3]
  have hst : OwnSt L W #[.int .i64 kd, .string ⟨nm.toArray⟩, .slice An nl cn, .slice Ae el ce, .slice Ap k cp] #[.int .i64 0, .string ⟨#[]⟩, .slice none 0 0, .slice none 0 0, .slice none 0 0] #[.int .i64 kd, .string ⟨nm.toArray⟩, .slice none 0 0, .slice none 0 0, .slice none 0 0] w3 := by
    subst hL
    refine ⟨?_, ?_, ?_, ?_⟩
    · rw [← hw3]
      exact (((Below.refl _ W).alloc (Nat.le_refl _) _).alloc (by simp) _).alloc (by simp; omega) _
    · rw [← hw3]
      exact heap_alloc (heap_alloc (heap_alloc_new W _) _) _
    · rw [← hw3]
      have := heap_alloc_new (W.alloc (.cells #[.int .i64 kd, .string ⟨nm.toArray⟩, .slice An nl cn, .slice Ae el ce, .slice Ap k cp] 26)) (.cells #[.int .i64 0, .string ⟨#[]⟩, .slice none 0 0, .slice none 0 0, .slice none 0 0] 26)
      rw [show (W.alloc (.cells #[.int .i64 kd, .string ⟨nm.toArray⟩, .slice An nl cn, .slice Ae el ce, .slice Ap k cp] 26)).heap.size = W.heap.size + 1 by simp] at this
      exact heap_alloc this _
    · rw [← hw3]
      have := heap_alloc_new ((W.alloc (.cells #[.int .i64 kd, .string ⟨nm.toArray⟩, .slice An nl cn, .slice Ae el ce, .slice Ap k cp] 26)).alloc (.cells #[.int .i64 0, .string ⟨#[]⟩, .slice none 0 0, .slice none 0 0, .slice none 0 0] 26)) (.cells #[.int .i64 kd, .string ⟨nm.toArray⟩, .slice none 0 0, .slice none 0 0, .slice none 0 0] 26)
      rw [show ((W.alloc (.cells #[.int .i64 kd, .string ⟨nm.toArray⟩, .slice An nl cn, .slice Ae el ce, .slice Ap k cp] 26)).alloc (.cells #[.int .i64 0, .string ⟨#[]⟩, .slice none 0 0, .slice none 0 0, .slice none 0 0] 26)).heap.size = W.heap.size + 1 + 1 by simp] at this
      exact this
  have hsz3 : w3.heap.size = L + 1 + 1 + 1 := by rw [← hw3, ← hL]; simp
  have HS := Lib.hid hst
  have HSZ := Lib.hid hsz3
  clear hw3 hst hsz3
  obtain ⟨x0, x1, x2, x3, x4⟩ := five_cells HS.out.k0
  obtain ⟨y0, y1, y2, y3, y4⟩ := five_cells HS.out.k2
  obtain ⟨l1, l2, l3⟩ := HS.out.lt
  go_upto_region 3 with (first
    | (at_builtin; refine wpList_append_strs rfl _ _ rfl rfl rfl (HNM.out.below (by rw [HL.out]; exact HS.out.b)) n1 ?_; intro AN cN w4 hr4 hb4; have hs4 := HS.out.go hb4; obtain ⟨m1, m2, m3⟩ := hs4.lt; obtain ⟨f0, f1, f2, f3, f4⟩ := five_free hs4.k2; obtain ⟨q0, q1, q2, q3, q4⟩ := five_cells hs4.k2))
  obtain ⟨w5, hw5⟩ : ∃ w5, w4.setCell ⟨L + 1 + 1, 2, none⟩ (.slice AN nl cN) = w5 := ⟨_, rfl⟩
  rw [hw5]
  have hs5 := hs4.set 2 (.slice AN nl cN)
  rw [hw5] at hs5
  have hr5 : StrRow (only w5 (since (L + 1 + 1 + 1))) (.slice AN nl cN) t.names := by
    rw [HSZ.out] at hr4
    rw [← hw5]
    exact hr4.sub Sub.since_set
  have hz5 : L + 1 + 1 + 1 ≤ w5.heap.size := by rw [← hw5]; simp [World.setCell]; omega
  have HS5 := Lib.hid hs5
  have HR5 := Lib.hid hr5
  clear hs4 hs5 hr4 hr5 hb4 hw5 f0 f1 f2 f3 f4 q0 q1 q2 q3 q4 m1 m2 m3 x0 x1 x2 x3 x4 y0 y1 y2 y3 y4 l1 l2 l3
  obtain ⟨x0, x1, x2, x3, x4⟩ := five_cells HS5.out.k0
  obtain ⟨y0, y1, y2, y3, y4⟩ := five_cells HS5.out.k2
  obtain ⟨l1, l2, l3⟩ := HS5.out.lt
  go_upto_region 4 with (first
    | (at_builtin; refine wpList_append_bools rfl _ _ rfl rfl rfl (HEM.out.below (by rw [HL.out]; exact HS5.out.b)) e1 ?_; intro AE cE w6 hr6 hb6; have hs6 := HS5.out.go hb6; obtain ⟨m1, m2, m3⟩ := hs6.lt; obtain ⟨f0, f1, f2, f3, f4⟩ := five_free hs6.k2; obtain ⟨q0, q1, q2, q3, q4⟩ := five_cells hs6.k2))
  obtain ⟨w7, hw7⟩ : ∃ w7, w6.setCell ⟨L + 1 + 1, 3, none⟩ (.slice AE el cE) = w7 := ⟨_, rfl⟩
  rw [hw7]
  have hs7 := hs6.set 3 (.slice AE el cE)
  rw [hw7] at hs7
  have hr7 : BoolRow (only w7 (since (L + 1 + 1 + 1))) (.slice AE el cE) t.embeds := by
    rw [← hw7]
    exact (hr6.sub (Sub.since_mono hz5)).sub Sub.since_set
  have hq7 : StrRow (only w7 (since (L + 1 + 1 + 1))) (.slice AN nl cN) t.names := by
    rw [← hw7]
    exact (HR5.out.sub (Sub.since_below hb6)).sub Sub.since_set
  have hz7 : L + 1 + 1 + 1 ≤ w7.heap.size := by have := hb6.size; rw [← hw7]; simp [World.setCell]; omega
  have HS7 := Lib.hid hs7
  have HR7 := Lib.hid hr7
  have HQ7 := Lib.hid hq7
  clear hs6 hs7 hr6 hr7 hq7 hb6 hw7 f0 f1 f2 f3 f4 q0 q1 q2 q3 q4 m1 m2 m3 x0 x1 x2 x3 x4 y0 y1 y2 y3 y4 l1 l2 l3
  go_wp2_with fail
  obtain ⟨M, hM⟩ : ∃ M, w7.heap.size = M := ⟨_, rfl⟩
  have HM := Lib.hid hM
  rw [hM] at hz7
  clear hM
  go_loopg [4] k (fun i v wr => ∃ (m : Nat) (A : Option Addr) (c : Nat), i = k - m ∧ v = .int .i64 (m : Nat) ∧ m ≤ k ∧ OwnSt L W #[.int .i64 kd, .string ⟨nm.toArray⟩, .slice An nl cn, .slice Ae el ce, .slice Ap k cp] #[.int .i64 0, .string ⟨#[]⟩, .slice none 0 0, .slice none 0 0, .slice none 0 0] #[.int .i64 kd, .string ⟨nm.toArray⟩, .slice AN nl cN, .slice AE el cE, .slice A m c] wr ∧
    (∀ gg, L + 1 + 1 + 1 ≤ gg → gg < M → wr.heap[gg]? = w7.heap[gg]?) ∧ Own RTy 26 5 M none wr (.slice A m c) (t.parts.take m) ∧ M ≤ wr.heap.size)
  case atStart => exact ⟨0, none, 0, rfl, rfl, Nat.zero_le _, HS7.out, fun _ _ _ => rfl, Own.nil, Nat.le_of_eq HM.out.symm⟩
  case round =>
    obtain ⟨m, A, c, hi, rfl, hm, hs, hq, ho, hz⟩ := hrel
    have HI := Lib.hid hi
    have HSR := Lib.hid hs
    have HQR := Lib.hid hq
    have HO := Lib.hid ho
    have m0 : (0 : Int) ≤ (m : Int) := by omega
    clear hi hs hq ho
    obtain ⟨x0, x1, x2, x3, x4⟩ := five_cells HSR.out.k0
    obtain ⟨y0, y1, y2, y3, y4⟩ := five_cells HSR.out.k2
    obtain ⟨l1, l2, l3⟩ := HSR.out.lt
    by_cases hlt : m < k
    · have hmi : (m : Int) < (k : Int) := by omega
      have hmp : m < t.parts.length := by have := HK.out; omega
      obtain ⟨g, off, An1, cn1, Ae1, ce1, Aq, cq, rfl, hty, hc5⟩ := HP.out.spot m hmp
      rw [HL.out] at hc5
      obtain ⟨hg, c0, c1, c2, c3, c4⟩ := hc5 wr HSR.out.b
      have HTK := Lib.hid (List.take_succ_eq_append_getElem hmp)
      have HLM := Lib.hid (show (t.parts.take m).length = m by rw [List.length_take]; omega)
      have hmem := List.getElem_mem hmp
      obtain ⟨p, hpe⟩ : ∃ p, t.parts[m]'hmp = p := ⟨_, rfl⟩
      rw [hpe] at c0 c1 c2 c3 c4 hty hmem HTK
      have HRE := Lib.hid (fun X (hX : Below wr.heap.size wr X) => HIH.out p hmem _ X (IsTy.below (by rw [HL.out]; exact (HSR.out.go hX).b) _ _ hty))
      clear hmem hpe hty hc5
      have hdr : Below wr.heap.size wr wr.drew := Below.drewN (Below.refl _ _) 1
      have HEND := Lib.hid (show ∀ (w5 W9 w9 : World) (A9 : Option Addr) (c9 : Nat), Below wr.heap.size wr W9 → Own RTy 26 5 M none w9 (.slice A9 (m + 1) c9) (t.parts.take m ++ [p]) → W9.grownBy w9 (Value.slice A m c).ownBlock →
          (OwnSt L W #[.int .i64 kd, .string ⟨nm.toArray⟩, .slice An nl cn, .slice Ae el ce, .slice (some ⟨g, off, none⟩) k cp] #[.int .i64 0, .string ⟨#[]⟩, .slice none 0 0, .slice none 0 0, .slice none 0 0] #[.int .i64 kd, .string ⟨nm.toArray⟩, .slice AN nl cN, .slice AE el cE, .slice A m c] w9) ∧
          (OwnSt L W #[.int .i64 kd, .string ⟨nm.toArray⟩, .slice An nl cn, .slice Ae el ce, .slice (some ⟨g, off, none⟩) k cp] #[.int .i64 0, .string ⟨#[]⟩, .slice none 0 0, .slice none 0 0, .slice none 0 0] #[.int .i64 kd, .string ⟨nm.toArray⟩, .slice AN nl cN, .slice AE el cE, .slice A9 (m + 1) c9] (w9.setCell ⟨L + 1 + 1, 4, none⟩ (.slice A9 (m + 1) c9))) ∧
          (∀ gg, L + 1 + 1 + 1 ≤ gg → gg < M → (w9.setCell ⟨L + 1 + 1, 4, none⟩ (.slice A9 (m + 1) c9)).heap[gg]? = w7.heap[gg]?) ∧
          Own RTy 26 5 M none (w9.setCell ⟨L + 1 + 1, 4, none⟩ (.slice A9 (m + 1) c9)) (.slice A9 (m + 1) c9) (t.parts.take (m + 1)) ∧ M ≤ (w9.setCell ⟨L + 1 + 1, 4, none⟩ (.slice A9 (m + 1) c9)).heap.size by
        intro w5 W9 w9 A9 c9 hb9 hown9 hgr9
        have hrl := fun j e => (Own.lt HO.out j e).1
        have hs9 := (HSR.out.go hb9).grown hgr9 (fun j e => by have := hrl j e; omega)
        have hset : ∀ gg, gg ≠ L + 1 + 1 → (w9.setCell ⟨L + 1 + 1, 4, none⟩ (.slice A9 (m + 1) c9)).heap[gg]? = w9.heap[gg]? := fun gg h => Below.heap_setCell _ _ _ _ h
        refine ⟨hs9, hs9.set 4 _, fun gg h1 h2 => ?_, ?_, ?_⟩
        · rw [hset gg (by omega), hgr9.block gg (by have := hb9.size; omega) (fun e => by have := hrl gg e.symm; omega), hb9.block gg (by omega)]
          exact HQR.out gg h1 h2
        · rw [HTK.out]
          exact hown9.keep RTy.sub fun gg _ h _ => hset gg (by omega)
        · have := hb9.size
          have := hgr9.size
          simp [World.setCell]
          omega)
      go_upto_region 7 with (fail)
      go_region_law (first
        | (refine stepPush (w := w5.alloc (.cells #[.int .i64 p.kind, .string ⟨p.name.toArray⟩, .slice B1 p.names.length d1, .slice B2 p.embeds.length d2, .slice B3 p.parts.length d3] 26)) RTy.sub rfl (.tmp 30) (.tmp 37) 24 rfl (Own.go RTy.sub HO.out HB9.out) HLM.out Tryz.underlying24 infoTy rfl (by decide) rfl rfl (c := 1) (k := w5.heap.size) rfl (by exact heap_alloc_new w5 _) rfl (by simp [Value.oneCell']) (B := wr.heap.size) HR9.out hz (by simp; omega) (fun b e => nomatch e) (fun b e => (Own.lt HO.out b e).2) (by omega) (by omega) ?_
           intro A9 c9 w9 hown9 hgr9
           obtain ⟨hs9, hfin⟩ := HEND.out w5 _ w9 A9 c9 HB9.out hown9 hgr9
           obtain ⟨y0, y1, y2, y3, y4⟩ := five_cells hs9.k2
           obtain ⟨f0, f1, f2, f3, f4⟩ := five_free hs9.k2
           obtain ⟨l1, l2, l3⟩ := hs9.lt
           have HFIN := Lib.hid hfin
           clear hown9 hgr9 hs9 hfin)
        | (go_simp
           go_at_call 26
           refine (HRE.out wr.drew hdr).mono ?_
           rintro e w5 ⟨v5, rfl, ht5, hb5⟩
           obtain ⟨B1, d1, B2, d2, B3, d3, rfl, -⟩ := id ht5.agg
           have hs5 := (HSR.out.go hdr).go hb5
           have hb9 : Below wr.heap.size wr (w5.alloc (.cells #[.int .i64 p.kind, .string ⟨p.name.toArray⟩, .slice B1 p.names.length d1, .slice B2 p.embeds.length d2, .slice B3 p.parts.length d3] 26)) := (hdr.trans hb5).alloc (hdr.trans hb5).size _
           have HB9 := Lib.hid hb9
           have HR9 := Lib.hid (show RTy (only (w5.alloc (.cells #[.int .i64 p.kind, .string ⟨p.name.toArray⟩, .slice B1 p.names.length d1, .slice B2 p.embeds.length d2, .slice B3 p.parts.length d3] 26)) (since wr.heap.size)) [.int .i64 p.kind, .string ⟨p.name.toArray⟩, .slice B1 p.names.length d1, .slice B2 p.embeds.length d2, .slice B3 p.parts.length d3] p from
             ⟨_, _, _, _, _, rfl, IsTy.sub (Sub.since_below (grown_below (World.grownBy_alloc w5 _ none))) _ _ ht5⟩)
           have hbs5 : wr.heap.size ≤ w5.heap.size := hb5.size
           obtain ⟨y0, y1, y2, y3, y4⟩ := five_cells hs5.k2
           obtain ⟨l1, l2, l3⟩ := hs5.lt
           clear ht5 hb5 hs5 hb9))
      all_goals
        obtain ⟨W10, hW10⟩ : ∃ W10, w9.setCell ⟨L + 1 + 1, 4, none⟩ (.slice A9 (m + 1) c9) = W10 := ⟨_, rfl⟩
        have hfin := HFIN.out
        rw [hW10] at hfin ⊢
        have HFN := Lib.hid hfin
        clear hW10 hfin
        go_wp2_with fail
        go_roundg (k - (m + 1))
        case measure => have := HI.out; omega
        case rel => exact ⟨m + 1, A9, c9, rfl, by simp, hlt, HFN.out⟩
    · have hmi : ¬ (m : Int) < (k : Int) := by omega
      have hfu := List.take_of_length_le (show t.parts.length ≤ m by have := HK.out; omega)
      have hres := HO.out
      rw [hfu] at hres
      obtain ⟨z0, z1, z2, z3, z4⟩ := five_cells HSR.out.k1
      obtain ⟨f0, f1, f2, f3, f4⟩ := five_free HSR.out.k1
      have HRES := Lib.hid hres
      clear hfu hres
      go_wp2_with fail
      obtain ⟨wz, hwz⟩ : ∃ wz, (((((wr.setCell ⟨L + 1, 0, none⟩ (.int .i64 kd)).setCell ⟨L + 1, 1, none⟩ (.string ⟨nm.toArray⟩)).setCell ⟨L + 1, 2, none⟩ (.slice AN nl cN)).setCell ⟨L + 1, 3, none⟩ (.slice AE el cE)).setCell ⟨L + 1, 4, none⟩ (.slice A m c)) = wz := ⟨_, rfl⟩
      rw [hwz]
      have hk1 := heap_setCell_same _ _ 4 _ _ (.slice A m c) (heap_setCell_same _ _ 3 _ _ (.slice AE el cE) (heap_setCell_same _ _ 2 _ _ (.slice AN nl cN) (heap_setCell_same _ _ 1 _ _ (.string ⟨nm.toArray⟩) (heap_setCell_same _ _ 0 _ _ (.int .i64 kd) HSR.out.k1))))
      have hbz : Below L W wz := by
        rw [← hwz]
        exact ((((HSR.out.b.setCell (by simp) _).setCell (by simp) _).setCell (by simp) _).setCell (by simp) _).setCell (by simp) _
      have hoth : ∀ gg, gg ≠ L + 1 → wz.heap[gg]? = wr.heap[gg]? := fun gg h => by
        rw [← hwz]
        exact (Below.heap_setCell _ _ _ _ h).trans ((Below.heap_setCell _ _ _ _ h).trans ((Below.heap_setCell _ _ _ _ h).trans ((Below.heap_setCell _ _ _ _ h).trans (Below.heap_setCell _ _ _ _ h))))
      rw [hwz] at hk1
      obtain ⟨q0, q1, q2, q3, q4⟩ := five_cells (show wz.heap[L + 1]? = some (.cells #[.int .i64 kd, .string ⟨nm.toArray⟩, .slice AN nl cN, .slice AE el cE, .slice A m c] 26 (0, 0)) from hk1)
      have hs7 : Sub (only w7 (since (L + 1 + 1 + 1))) (only wz (since L)) := only_keep fun gg hg hs => by
        have h1 := since_iff.1 hs
        refine ⟨since_iff.2 (by omega), ?_⟩
        rw [hoth gg (by omega)]
        exact HQR.out gg h1 (by have := HM.out; omega)
      have hsr : Sub (only wr (but M none none)) (only wz (since L)) := only_keep fun gg hg hs => by
        have h1 := (but_iff.1 hs).1
        refine ⟨since_iff.2 (by omega), ?_⟩
        rw [hoth gg (by omega)]
      refine bodyPost_ret (v := .agg #[.int .i64 kd, .string ⟨nm.toArray⟩, .slice AN nl cN, .slice AE el cE, .slice A m c]) (by simp [results, Tryz.results26, go_sem, q0, q1, q2, q3, q4]) rfl ⟨_, rfl, ?_, hbz⟩
      rw [HTT.out]
      exact IsTy.made2 (HQ7.out.sub hs7) (HR7.out.sub hs7) (HRES.out.tys.sub hsr)
theorem keepOwn : ∀ (n : Nat) (t : Sx.Ty), Sx.size t ≤ n → n ≤ 1000000 → OwnOk t
  | 0, t, h, _ => by have := Sx.size_pos t; omega
  | n + 1, t, h, h1 => keepOwn1 t (by omega) fun p hp => keepOwn n p (by
      have := Sx.size_mem hp
      have := Sx.size_parts t
      omega) (by omega)

end Go.Proofs.YtdncljdfmdgdaaaGreatDoor

namespace Go.Proofs.YtdncljdfmdgdaaaGreatDoor
open Go.RowKit Go.Shelf
set_option linter.unusedSimpArgs false
set_option linter.unusedVariables false

theorem arr5 {cs : Array Value} (h : cs.size = 5) : ∃ a b c d e, cs = #[a, b, c, d, e] := by
  obtain ⟨l⟩ := cs
  match l, h with
  | [a, b, c, d, e], _ => exact ⟨a, b, c, d, e, rfl⟩
theorem arr7 {cs : Array Value} (h : cs.size = 7) : ∃ a b c d e f g, cs = #[a, b, c, d, e, f, g] := by
  obtain ⟨l⟩ := cs
  match l, h with
  | [a, b, c, d, e, f, g], _ => exact ⟨a, b, c, d, e, f, g, rfl⟩
/-- All blocks but three. -/
def off3 (T X G : Nat) : Nat → Bool := fun g => g != T && (g != X && g != G)
theorem off3_iff {T X G g : Nat} : off3 T X G g = true ↔ g ≠ T ∧ g ≠ X ∧ g ≠ G := by simp [off3]
structure DeepInv (w : World) (T X G : Nat) (t : Sx.Ty) (x : Sx.Ex) (l : List Sx.St) (y : Sx.Ex) (ct cx cg : Array Value) (vl : Value) (W : World) : Prop where
  g0 : GL w
  n0 : NG ≤ w.heap.size
  b : Below w.heap.size w W
  bT : w.heap.size ≤ T
  TX : T < X
  XG : X < G
  kt : W.heap[T]? = some (.cells ct 26 (0, 0))
  kx : W.heap[X]? = some (.cells cx 39 (0, 0))
  kg : W.heap[G]? = some (.cells cg 39 (0, 0))
  ft : IsTy (only W (off3 T X G)) (.agg ct) t
  fx : IsEx (only W (off3 T X G)) (.agg cx) x
  fl : StRow (only W (off3 T X G)) vl l
  fg : IsEx (only W (off3 T X G)) (.agg cg) y
section
variable {w : World} {T X G : Nat} {t : Sx.Ty} {x : Sx.Ex} {l : List Sx.St} {y : Sx.Ex} {ct cx cg : Array Value} {vl : Value} {W W' : World}
theorem DeepInv.lw (h : DeepInv w T X G t x l y ct cx cg vl W) : LW w W := ⟨h.b, h.g0.below h.b, Nat.le_trans h.n0 h.b.size⟩
theorem DeepInv.lt (h : DeepInv w T X G t x l y ct cx cg vl W) : T < W.heap.size ∧ X < W.heap.size ∧ G < W.heap.size := ⟨lt_of_block h.kt, lt_of_block h.kx, lt_of_block h.kg⟩
theorem DeepInv.go (h : DeepInv w T X G t x l y ct cx cg vl W) (hb : Below W.heap.size W W') : DeepInv w T X G t x l y ct cx cg vl W' :=
  have hs : Sub (only W (off3 T X G)) (only W' (off3 T X G)) := only_keep fun g hg hS => ⟨hS, hb.block g hg⟩
  ⟨h.g0, h.n0, h.b.trans (hb.mono h.b.size), h.bT, h.TX, h.XG, (hb.block _ h.lt.1).trans h.kt, (hb.block _ h.lt.2.1).trans h.kx, (hb.block _ h.lt.2.2).trans h.kg, IsTy.sub hs _ _ h.ft, IsEx.sub hs _ _ h.fx, h.fl.sub hs, IsEx.sub hs _ _ h.fg⟩
/-- Stores into one of the three. -/
theorem DeepInv.store (h : DeepInv w T X G t x l y ct cx cg vl W) {k : Nat} (hk : k = T ∨ k = X ∨ k = G) (hb : Below w.heap.size w W') (hoth : ∀ g, g ≠ k → W'.heap[g]? = W.heap[g]?) {t' : Sx.Ty} {x' y' : Sx.Ex} {ct' cx' cg' : Array Value}
    (kt : W'.heap[T]? = some (.cells ct' 26 (0, 0))) (kx : W'.heap[X]? = some (.cells cx' 39 (0, 0))) (kg : W'.heap[G]? = some (.cells cg' 39 (0, 0)))
    (ft : IsTy (only W (off3 T X G)) (.agg ct') t') (fx : IsEx (only W (off3 T X G)) (.agg cx') x') (fg : IsEx (only W (off3 T X G)) (.agg cg') y') : DeepInv w T X G t' x' l y' ct' cx' cg' vl W' :=
  have hs : Sub (only W (off3 T X G)) (only W' (off3 T X G)) := only_keep fun g hg hS => ⟨hS, hoth g (by obtain ⟨h1, h2, h3⟩ := off3_iff.1 hS; rcases hk with rfl | rfl | rfl <;> assumption)⟩
  ⟨h.g0, h.n0, hb, h.bT, h.TX, h.XG, kt, kx, kg, IsTy.sub hs _ _ ft, IsEx.sub hs _ _ fx, h.fl.sub hs, IsEx.sub hs _ _ fg⟩
theorem DeepInv.setT (h : DeepInv w T X G t x l y ct cx cg vl W) (a0 a1 a2 a3 a4 : Value) (hc : ct.size = 5) {t' : Sx.Ty} (ft : IsTy (only W (off3 T X G)) (.agg #[a0, a1, a2, a3, a4]) t') :
    DeepInv w T X G t' x l y #[a0, a1, a2, a3, a4] cx cg vl (((((W.setCell ⟨T, 0, none⟩ a0).setCell ⟨T, 1, none⟩ a1).setCell ⟨T, 2, none⟩ a2).setCell ⟨T, 3, none⟩ a3).setCell ⟨T, 4, none⟩ a4) := by
  have hT := h.bT
  have h1 := h.TX
  have h2 := h.XG
  have ho : ∀ g, g ≠ T → (((((W.setCell ⟨T, 0, none⟩ a0).setCell ⟨T, 1, none⟩ a1).setCell ⟨T, 2, none⟩ a2).setCell ⟨T, 3, none⟩ a3).setCell ⟨T, 4, none⟩ a4).heap[g]? = W.heap[g]? := fun g hg =>
    (Below.heap_setCell _ _ _ _ hg).trans ((Below.heap_setCell _ _ _ _ hg).trans ((Below.heap_setCell _ _ _ _ hg).trans ((Below.heap_setCell _ _ _ _ hg).trans (Below.heap_setCell _ _ _ _ hg))))
  refine h.store (.inl rfl) (((((h.b.setCell hT _).setCell hT _).setCell hT _).setCell hT _).setCell hT _) ho ?_ ((ho _ (by omega)).trans h.kx) ((ho _ (by omega)).trans h.kg) ft h.fx h.fg
  have hk := heap_setCell_same _ _ 4 _ _ a4 (heap_setCell_same _ _ 3 _ _ a3 (heap_setCell_same _ _ 2 _ _ a2 (heap_setCell_same _ _ 1 _ _ a1 (heap_setCell_same _ _ 0 _ _ a0 h.kt))))
  obtain ⟨c0, c1, c2, c3, c4, rfl⟩ := arr5 hc
  exact hk
theorem seven_set {W : World} {B : Nat} {cs : Array Value} (hk : W.heap[B]? = some (.cells cs 39 (0, 0))) (hc : cs.size = 7) (a0 a1 a2 a3 a4 a5 a6 : Value) :
    (((((((W.setCell ⟨B, 0, none⟩ a0).setCell ⟨B, 1, none⟩ a1).setCell ⟨B, 2, none⟩ a2).setCell ⟨B, 3, none⟩ a3).setCell ⟨B, 4, none⟩ a4).setCell ⟨B, 5, none⟩ a5).setCell ⟨B, 6, none⟩ a6).heap[B]? = some (.cells #[a0, a1, a2, a3, a4, a5, a6] 39 (0, 0)) ∧
    ∀ g, g ≠ B → (((((((W.setCell ⟨B, 0, none⟩ a0).setCell ⟨B, 1, none⟩ a1).setCell ⟨B, 2, none⟩ a2).setCell ⟨B, 3, none⟩ a3).setCell ⟨B, 4, none⟩ a4).setCell ⟨B, 5, none⟩ a5).setCell ⟨B, 6, none⟩ a6).heap[g]? = W.heap[g]? := by
  refine ⟨?_, fun g hg => (Below.heap_setCell _ _ _ _ hg).trans ((Below.heap_setCell _ _ _ _ hg).trans ((Below.heap_setCell _ _ _ _ hg).trans ((Below.heap_setCell _ _ _ _ hg).trans ((Below.heap_setCell _ _ _ _ hg).trans ((Below.heap_setCell _ _ _ _ hg).trans (Below.heap_setCell _ _ _ _ hg))))))⟩
  obtain ⟨c0, c1, c2, c3, c4, c5, c6, rfl⟩ := arr7 hc
  have h0 : (W.setCell ⟨B, 0, none⟩ a0).heap[B]? = some (.cells #[a0, c1, c2, c3, c4, c5, c6] 39 (0, 0)) := heap_setCell_same _ _ 0 _ _ a0 hk
  have h1 : ((W.setCell ⟨B, 0, none⟩ a0).setCell ⟨B, 1, none⟩ a1).heap[B]? = some (.cells #[a0, a1, c2, c3, c4, c5, c6] 39 (0, 0)) := heap_setCell_same _ _ 1 _ _ a1 h0
  have h2 : (((W.setCell ⟨B, 0, none⟩ a0).setCell ⟨B, 1, none⟩ a1).setCell ⟨B, 2, none⟩ a2).heap[B]? = some (.cells #[a0, a1, a2, c3, c4, c5, c6] 39 (0, 0)) := heap_setCell_same _ _ 2 _ _ a2 h1
  have h3 : ((((W.setCell ⟨B, 0, none⟩ a0).setCell ⟨B, 1, none⟩ a1).setCell ⟨B, 2, none⟩ a2).setCell ⟨B, 3, none⟩ a3).heap[B]? = some (.cells #[a0, a1, a2, a3, c4, c5, c6] 39 (0, 0)) := heap_setCell_same _ _ 3 _ _ a3 h2
  have h4 : (((((W.setCell ⟨B, 0, none⟩ a0).setCell ⟨B, 1, none⟩ a1).setCell ⟨B, 2, none⟩ a2).setCell ⟨B, 3, none⟩ a3).setCell ⟨B, 4, none⟩ a4).heap[B]? = some (.cells #[a0, a1, a2, a3, a4, c5, c6] 39 (0, 0)) := heap_setCell_same _ _ 4 _ _ a4 h3
  have h5 : ((((((W.setCell ⟨B, 0, none⟩ a0).setCell ⟨B, 1, none⟩ a1).setCell ⟨B, 2, none⟩ a2).setCell ⟨B, 3, none⟩ a3).setCell ⟨B, 4, none⟩ a4).setCell ⟨B, 5, none⟩ a5).heap[B]? = some (.cells #[a0, a1, a2, a3, a4, a5, c6] 39 (0, 0)) := heap_setCell_same _ _ 5 _ _ a5 h4
  exact heap_setCell_same _ _ 6 _ _ a6 h5
theorem below_seven {B0 B : Nat} (h : Below B0 w W) (hB : B0 ≤ B) (a0 a1 a2 a3 a4 a5 a6 : Value) : Below B0 w (((((((W.setCell ⟨B, 0, none⟩ a0).setCell ⟨B, 1, none⟩ a1).setCell ⟨B, 2, none⟩ a2).setCell ⟨B, 3, none⟩ a3).setCell ⟨B, 4, none⟩ a4).setCell ⟨B, 5, none⟩ a5).setCell ⟨B, 6, none⟩ a6) :=
  ((((((h.setCell hB _).setCell hB _).setCell hB _).setCell hB _).setCell hB _).setCell hB _).setCell hB _
theorem DeepInv.setX (h : DeepInv w T X G t x l y ct cx cg vl W) (a0 a1 a2 a3 a4 a5 a6 : Value) (hc : cx.size = 7) {x' : Sx.Ex} (fx : IsEx (only W (off3 T X G)) (.agg #[a0, a1, a2, a3, a4, a5, a6]) x') :
    DeepInv w T X G t x' l y ct #[a0, a1, a2, a3, a4, a5, a6] cg vl (((((((W.setCell ⟨X, 0, none⟩ a0).setCell ⟨X, 1, none⟩ a1).setCell ⟨X, 2, none⟩ a2).setCell ⟨X, 3, none⟩ a3).setCell ⟨X, 4, none⟩ a4).setCell ⟨X, 5, none⟩ a5).setCell ⟨X, 6, none⟩ a6) := by
  have hT := h.bT
  have h1 := h.TX
  have h2 := h.XG
  obtain ⟨hk, ho⟩ := seven_set h.kx hc a0 a1 a2 a3 a4 a5 a6
  exact h.store (.inr (.inl rfl)) (below_seven h.b (by omega) ..) ho ((ho _ (by omega)).trans h.kt) hk ((ho _ (by omega)).trans h.kg) h.ft fx h.fg
theorem DeepInv.setG (h : DeepInv w T X G t x l y ct cx cg vl W) (a0 a1 a2 a3 a4 a5 a6 : Value) (hc : cg.size = 7) {y' : Sx.Ex} (fg : IsEx (only W (off3 T X G)) (.agg #[a0, a1, a2, a3, a4, a5, a6]) y') :
    DeepInv w T X G t x l y' ct cx #[a0, a1, a2, a3, a4, a5, a6] vl (((((((W.setCell ⟨G, 0, none⟩ a0).setCell ⟨G, 1, none⟩ a1).setCell ⟨G, 2, none⟩ a2).setCell ⟨G, 3, none⟩ a3).setCell ⟨G, 4, none⟩ a4).setCell ⟨G, 5, none⟩ a5).setCell ⟨G, 6, none⟩ a6) := by
  have hT := h.bT
  have h1 := h.TX
  have h2 := h.XG
  obtain ⟨hk, ho⟩ := seven_set h.kg hc a0 a1 a2 a3 a4 a5 a6
  exact h.store (.inr (.inr rfl)) (below_seven h.b (by omega) ..) ho ((ho _ (by omega)).trans h.kt) ((ho _ (by omega)).trans h.kx) hk h.ft h.fx fg
theorem DeepInv.list (h : DeepInv w T X G t x l y ct cx cg vl W) {l' : List Sx.St} {vl' : Value} (fl : StRow (only W (off3 T X G)) vl' l') : DeepInv w T X G t x l' y ct cx cg vl' W := ⟨h.g0, h.n0, h.b, h.bT, h.TX, h.XG, h.kt, h.kx, h.kg, h.ft, h.fx, fl, h.fg⟩
end

/-! ### rows of one, of two, in a block -/
theorem TyRow.of1 {V : World} {g : Nat} {v0 v1 v2 v3 v4 : Value} {t : Sx.Ty} (hc : ∀ j, V.cell? ⟨g, j, none⟩ = (#[v0, v1, v2, v3, v4] : Array Value)[j]?) (h : IsTy V (.agg #[v0, v1, v2, v3, v4]) t) : TyRow V (.slice (some ⟨g, 0, none⟩) 1 1) [t] := by
  refine ⟨_, 1, rfl, Nat.le_refl _, ?_⟩
  rw [IsTys, IsTys]
  exact ⟨⟨_, 0, v0, v1, v2, v3, v4, rfl, hc 0, hc 1, hc 2, hc 3, hc 4, h⟩, trivial⟩
theorem ExRow.of1 {V : World} {g : Nat} {v0 v1 v2 v3 v4 v5 v6 : Value} {t : Sx.Ex} (hc : ∀ j, V.cell? ⟨g, j, none⟩ = (#[v0, v1, v2, v3, v4, v5, v6] : Array Value)[j]?) (h : IsEx V (.agg #[v0, v1, v2, v3, v4, v5, v6]) t) : ExRow V (.slice (some ⟨g, 0, none⟩) 1 1) [t] := by
  refine ⟨_, 1, rfl, Nat.le_refl _, ?_⟩
  rw [IsExs, IsExs]
  exact ⟨⟨_, 0, v0, v1, v2, v3, v4, v5, v6, rfl, hc 0, hc 1, hc 2, hc 3, hc 4, hc 5, hc 6, h⟩, trivial⟩
theorem ExRow.of2 {V : World} {g : Nat} {v0 v1 v2 v3 v4 v5 v6 u0 u1 u2 u3 u4 u5 u6 : Value} {t s : Sx.Ex} (hc : ∀ j, V.cell? ⟨g, j, none⟩ = (#[v0, v1, v2, v3, v4, v5, v6, u0, u1, u2, u3, u4, u5, u6] : Array Value)[j]?) (h : IsEx V (.agg #[v0, v1, v2, v3, v4, v5, v6]) t) (h' : IsEx V (.agg #[u0, u1, u2, u3, u4, u5, u6]) s) :
    ExRow V (.slice (some ⟨g, 0, none⟩) 2 2) [t, s] := by
  refine ⟨_, 2, rfl, Nat.le_refl _, ?_⟩
  rw [IsExs, IsExs, IsExs]
  exact ⟨⟨_, 0, v0, v1, v2, v3, v4, v5, v6, rfl, hc 0, hc 1, hc 2, hc 3, hc 4, hc 5, hc 6, h⟩, ⟨_, 0, u0, u1, u2, u3, u4, u5, u6, rfl, hc 7, hc 8, hc 9, hc 10, hc 11, hc 12, hc 13, h'⟩, trivial⟩
theorem StRow.of1 {V : World} {g : Nat} {v0 v1 v2 v3 v4 v5 v6 : Value} {t : Sx.St} (hc : ∀ j, V.cell? ⟨g, j, none⟩ = (#[v0, v1, v2, v3, v4, v5, v6] : Array Value)[j]?) (h : IsSt V (.agg #[v0, v1, v2, v3, v4, v5, v6]) t) : StRow V (.slice (some ⟨g, 0, none⟩) 1 1) [t] := by
  refine ⟨_, 1, rfl, Nat.le_refl _, ?_⟩
  rw [IsSts, IsSts]
  exact ⟨⟨_, 0, v0, v1, v2, v3, v4, v5, v6, rfl, hc 0, hc 1, hc 2, hc 3, hc 4, hc 5, hc 6, h⟩, trivial⟩
theorem IsSt.made {W : World} {pos k : Int} {nm : Lx.Bytes} {vt vx vb ve : Value} {t : List Sx.Ty} {x : List Sx.Ex} {b e : List Sx.St} (h1 : TyRow W vt t) (h2 : ExRow W vx x) (h3 : StRow W vb b) (h4 : StRow W ve e) :
    IsSt W (.agg #[.int .i64 pos, .int .i64 k, .string ⟨nm.toArray⟩, vt, vx, vb, ve]) (.mk pos k nm t x b e) := by
  obtain ⟨A, c, rfl, hc, hl⟩ := h3
  obtain ⟨A2, c2, rfl, hc2, hl2⟩ := h4
  rw [IsSt]
  exact ⟨vt, vx, A, c, A2, c2, rfl, h1, h2, hc, hl, hc2, hl2⟩
/-- A new block is none of the three. -/
theorem only_new {W' : World} {T X G : Nat} {cs : Array Value} {tid : Nat} {g : Nat} (hk : W'.heap[g]? = some (.cells cs tid (0, 0))) (h1 : T < g) (h2 : X < g) (h3 : G < g) : ∀ j, (only W' (off3 T X G)).cell? ⟨g, j, none⟩ = cs[j]? := fun j => by
  rw [only_cell, if_pos (off3_iff.2 ⟨by omega, by omega, by omega⟩), cell_of hk]
theorem isDNum (V : World) (n : Int) (h0 : -9223372036854775808 ≤ n) (h1 : n ≤ 9223372036854775807) : IsEx V (.agg #[.int .i64 0, .int .i64 1, .int .i64 n, .string ⟨#[]⟩, .slice none 0 0, .slice none 0 0, .slice none 0 0]) (dNum n) := IsEx.made (s := []) (TyRow.nil ..) (StrRow.nil ..) (ExRow.nil ..) h0 h1

set_option maxRecDepth 100000 in
set_option maxHeartbeats 4000000 in
/-- coillaw2.two, its block told. -/
theorem lawTwoB (k : Int) (p0 p1 p2 : Int) (s : ByteArray) (A4 A5 A6 : Option Addr) (m4 e4 m5 e5 m6 e6 : Nat) (q0 q1 q2 : Int) (r : ByteArray) (B4 B5 B6 : Option Addr) (n4 f4 n5 f5 n6 f6 : Nat) (w : World) :
    Calls Tryz.prog 21 #[.int .i64 k, .agg #[.int .i64 p0, .int .i64 p1, .int .i64 p2, .string s, .slice A4 m4 e4, .slice A5 m5 e5, .slice A6 m6 e6], .agg #[.int .i64 q0, .int .i64 q1, .int .i64 q2, .string r, .slice B4 n4 f4, .slice B5 n5 f5, .slice B6 n6 f6]] w fun e w' =>
      ∃ g, e = .returned (.agg #[.int .i64 0, .int .i64 k, .int .i64 0, .string ⟨#[]⟩, .slice none 0 0, .slice none 0 0, .slice (some ⟨g, 0, none⟩) 2 2]) ∧ w.heap.size ≤ g ∧
        w'.heap[g]? = some (.cells #[.int .i64 p0, .int .i64 p1, .int .i64 p2, .string s, .slice A4 m4 e4, .slice A5 m5 e5, .slice A6 m6 e6, .int .i64 q0, .int .i64 q1, .int .i64 q2, .string r, .slice B4 n4 f4, .slice B5 n5 f5, .slice B6 n6 f6] 39 (0, 0)) ∧ Below w.heap.size w w' := by
  go_enter Tryz.func21, Tryz.ntmps21
  go_wp2
  refine bodyPost_ret (v := .agg #[.int .i64 0, .int .i64 k, .int .i64 0, .string ⟨#[]⟩, .slice none 0 0, .slice none 0 0, .slice (some ⟨_, 0, none⟩) 2 2]) (by simp [results, Tryz.results21, go_sem]; rfl) rfl ⟨_, rfl, ?_, ?_, ?_⟩
  · omega
  · have h := heap_alloc_new (((w.alloc (.cells #[.int .i64 p0, .int .i64 p1, .int .i64 p2, .string s, .slice A4 m4 e4, .slice A5 m5 e5, .slice A6 m6 e6] 39)).alloc
        (.cells #[.int .i64 q0, .int .i64 q1, .int .i64 q2, .string r, .slice B4 n4 f4, .slice B5 n5 f5, .slice B6 n6 f6] 39)).alloc
        (.cells #[.int .i64 0, .int .i64 k, .int .i64 0, .string ⟨#[]⟩, .slice none 0 0, .slice none 0 0, .slice (some ⟨w.heap.size + 1 + 1 + 1, 0, none⟩) 2 2] 39)) (.cells #[.int .i64 p0, .int .i64 p1, .int .i64 p2, .string s, .slice A4 m4 e4, .slice A5 m5 e5, .slice A6 m6 e6, .int .i64 q0, .int .i64 q1, .int .i64 q2, .string r, .slice B4 n4 f4, .slice B5 n5 f5, .slice B6 n6 f6] 39)
    rw [size3] at h
    exact h
  · exact ((((Below.refl _ _).alloc (Nat.le_refl _) _).alloc (by simp) _).alloc (by simp; omega) _).alloc (by simp; omega) _

end Go.Proofs.YtdncljdfmdgdaaaGreatDoor

namespace Go.Proofs.YtdncljdfmdgdaaaGreatDoor
open Go.RowKit Go.Shelf
set_option linter.unusedSimpArgs false
set_option linter.unusedVariables false

mutual
/-- What any memory holds: each text, each list is shorter than 2^47 bytes. -/
def Sx.fits : Sx.Ty → Prop
  | .mk _ n ns es ps => n.length ≤ 140737488351232 ∧ ns.length ≤ 140737488351232 ∧ es.length ≤ 140737488351232 ∧ ps.length ≤ 140737488351232 ∧ (∀ s ∈ ns, s.length ≤ 140737488351232) ∧ Sx.fitsL ps
def Sx.fitsL : List Sx.Ty → Prop
  | [] => True
  | t :: l => Sx.fits t ∧ Sx.fitsL l
end
theorem Sx.fitsL_mem : ∀ {l : List Sx.Ty} {t : Sx.Ty}, Sx.fitsL l → t ∈ l → Sx.fits t
  | u :: l, t, h, hm => by
    rw [Sx.fitsL] at h
    rcases List.mem_cons.1 hm with rfl | hm
    · exact h.1
    · exact Sx.fitsL_mem h.2 hm
theorem Sx.fits_parts {t : Sx.Ty} (h : Sx.fits t) : t.name.length ≤ 140737488351232 ∧ t.names.length ≤ 140737488351232 ∧ t.embeds.length ≤ 140737488351232 ∧ t.parts.length ≤ 140737488351232 ∧ (∀ s ∈ t.names, s.length ≤ 140737488351232) ∧ ∀ p ∈ t.parts, Sx.fits p := by
  cases t
  rw [Sx.fits] at h
  obtain ⟨a, b, c, d, e, f⟩ := h
  exact ⟨a, b, c, d, e, fun p hp => Sx.fitsL_mem f hp⟩
theorem Sx.sum_take {ns : List Lx.Bytes} {m : Nat} (h : m < ns.length) : ((ns.take (m + 1)).map List.length).sum = ((ns.take m).map List.length).sum + (ns[m]).length := by
  rw [List.take_succ_eq_append_getElem h, List.map_append, List.sum_append]
  simp

/-- What the size with a limit promises. -/
def SizeIs (most sz : Nat) (W : World) (e : Ending) (W' : World) : Prop := ∃ r : Nat, e = .returned (.int .i64 (r : Nat)) ∧ r ≤ most + 500000000000000 ∧ (r < most → r = sz) ∧ Below W.heap.size W W'

set_option maxRecDepth 100000 in
set_option maxHeartbeats 8000000 in
theorem keepSize : ∀ (n : Nat) (t : Sx.Ty), Sx.size t ≤ n → Sx.fits t → ∀ (most : Nat) (v : Value) (W : World), 1 ≤ most → most ≤ 1000000 → IsTy W v t →
    Calls Tryz.prog 25 #[v, .int .i64 (most : Nat)] W (SizeIs most (Sx.size t) W) := by
  intro n
  induction n with
  | zero => intro t h; have := Sx.size_pos t; omega
  | succ n ih =>
    intro t hn hf most v W hm1 hm2 ht
    obtain ⟨f1, f2, f3, f4, f5, f6⟩ := Sx.fits_parts hf
    obtain ⟨An, cn, Ae, ce, Ap, cp, rfl, hnm, hem, hp⟩ := ht.agg
    have hsp := Sx.size_parts t
    obtain ⟨nl, hnl⟩ : ∃ k, t.names.length = k := ⟨_, rfl⟩
    obtain ⟨el, hel⟩ : ∃ k, t.embeds.length = k := ⟨_, rfl⟩
    obtain ⟨k, hk⟩ : ∃ k, t.parts.length = k := ⟨_, rfl⟩
    obtain ⟨ll, hll⟩ : ∃ k, t.name.length = k := ⟨_, rfl⟩
    rw [hnl, hel, hll] at hsp
    rw [hnl] at f2 hnm
    rw [hel] at f3
    rw [hk] at f4 hp
    rw [hll] at f1
    rw [hnl, hel, hk]
    have i1 : (0 : Int) ≤ (ll : Int) ∧ (ll : Int) ≤ 140737488351232 := by omega
    have i2 : (0 : Int) ≤ (nl : Int) ∧ (nl : Int) ≤ 140737488351232 := by omega
    have i3 : (0 : Int) ≤ (el : Int) ∧ (el : Int) ≤ 140737488351232 := by omega
    have i4 : (0 : Int) ≤ (k : Int) ∧ (k : Int) ≤ 140737488351232 := by omega
    have i5 : (1 : Int) ≤ (most : Int) ∧ (most : Int) ≤ 1000000 := by omega
    obtain ⟨i1a, i1b⟩ := i1
    obtain ⟨i2a, i2b⟩ := i2
    obtain ⟨i3a, i3b⟩ := i3
    obtain ⟨i4a, i4b⟩ := i4
    obtain ⟨i5a, i5b⟩ := i5
    have hstr : (⟨t.name.toArray⟩ : ByteArray).size = ll := by simp [ByteArray.size, hll]
    have HIH := Lib.hid ih
    have HSP := Lib.hid hsp
    have HN := Lib.hid hn
    have HNM := Lib.hid hnm
    have HP := Lib.hid hp
    have HF5 := Lib.hid f5
    have HF6 := Lib.hid f6
    have HNL := Lib.hid hnl
    have HK := Lib.hid hk
    obtain ⟨L, hL⟩ : ∃ L, W.heap.size = L := ⟨_, rfl⟩
    obtain ⟨w2, hw2⟩ : ∃ w2, W.alloc (.cells #[.int .i64 t.kind, .string ⟨t.name.toArray⟩, .slice An nl cn, .slice Ae el ce, .slice Ap k cp] 26) = w2 := ⟨_, rfl⟩
    have hbox : w2.heap[L]? = some (.cells #[.int .i64 t.kind, .string ⟨t.name.toArray⟩, .slice An nl cn, .slice Ae el ce, .slice Ap k cp] 26 (0, 0)) := by rw [← hw2, ← hL]; exact heap_alloc_new W _
    have hb2 : Below L W w2 := by rw [← hw2, ← hL]; exact grown_below (World.grownBy_alloc W _ none)
    obtain ⟨x0, x1, x2, x3, x4⟩ := five_cells hbox
    have hl2 := lt_of_block hbox
    have HBX := Lib.hid hbox
    have HB2 := Lib.hid hb2
    have HL := Lib.hid hL
    clear ih hsp hn hnm hem hp f5 f6 hnl hel hk hll ht hf hbox hb2
    go_enter Tryz.func25, Tryz.ntmps25
    go_upto_block 0 with (fail)
    obtain ⟨bs, hbs⟩ : ∃ b : Int, 1 + (ll : Int) + (nl : Int) + (el : Int) = b := ⟨_, rfl⟩
    have HBS := Lib.hid hbs
    rw [hbs]
    clear hbs
    go_cut [5] (fun v wx => wx = w2 ∧ ∃ r : Nat, v = .int .i64 (r : Nat) ∧ r ≤ most + 500000000000000 ∧ (r < most → r = 1 + ll + nl + el + (t.names.map List.length).sum))
    case first =>
      go_wp2_with fail
      go_loopg [5, 6] nl (fun i v u wr => ∃ (m r : Nat), i = nl - m ∧ v = .int .i64 (r : Nat) ∧ u = .int .i64 (m : Nat) ∧ m ≤ nl ∧ r ≤ most + 500000000000000 ∧ (r < most → r = 1 + ll + nl + el + ((t.names.take m).map List.length).sum) ∧ wr = w2)
      case atStart => exact ⟨0, 1 + ll + nl + el, rfl, by have := HBS.out; congr 1; omega, rfl, Nat.zero_le _, by omega, by simp, rfl⟩
      case round =>
        obtain ⟨m, r, hi, rfl, rfl, hm, hr1, hr2, rfl⟩ := hrel
        have HI := Lib.hid hi
        have HR2 := Lib.hid hr2
        have m0 : (0 : Int) ≤ (m : Int) := by omega
        have r0 : (0 : Int) ≤ (r : Int) := by omega
        have r1 : (r : Int) ≤ 500000001000000 := by omega
        clear hi hr2
        by_cases hlt : m < nl
        · have hmi : (m : Int) < (nl : Int) := by omega
          by_cases hrm : r < most
          · have hri : (r : Int) < (most : Int) := by omega
            have hmn : m < t.names.length := by have := HNL.out; omega
            obtain ⟨g1, off1, rfl, hsp1⟩ := HNM.out.spot m hmn
            obtain ⟨hg1, q1⟩ := hsp1 wr (by rw [HL.out]; exact HB2.out)
            have hst := Sx.sum_take hmn
            have hfl := HF5.out _ (List.getElem_mem hmn)
            obtain ⟨s, hse⟩ : ∃ s, t.names[m]'hmn = s := ⟨_, rfl⟩
            rw [hse] at q1 hst hfl
            obtain ⟨sl, hsl⟩ : ∃ k, s.length = k := ⟨_, rfl⟩
            have hsz : (⟨s.toArray⟩ : ByteArray).size = sl := by simp [ByteArray.size, hsl]
            rw [hsl] at hst hfl
            have s0 : (0 : Int) ≤ (sl : Int) := by omega
            have s1 : (sl : Int) ≤ 140737488351232 := by omega
            have HST := Lib.hid hst
            have HRR := Lib.hid (HR2.out hrm)
            clear hst hse hsl hsp1
            go_wp2_with fail
            go_roundg (nl - (m + 1))
            case measure => have := HI.out; omega
            case rel => exact ⟨m + 1, r + sl, rfl, by simp, by simp, hlt, by omega, fun _ => by rw [HST.out, HRR.out]; omega, rfl⟩
          · have hri : decide ((r : Int) < (most : Int)) = false := by rw [decide_eq_false_iff_not]; omega
            have hri2 : ¬ (r : Int) < (most : Int) := by omega
            go_wp2_with fail
            go_meet
            exact ⟨rfl, r, rfl, hr1, fun h => absurd h hrm⟩
        · have hmi : decide ((m : Int) < (nl : Int)) = false := by rw [decide_eq_false_iff_not]; omega
          have hmi2 : ¬ (m : Int) < (nl : Int) := by omega
          have hfull := List.take_of_length_le (show t.names.length ≤ m by have := HNL.out; omega)
          have HFU := Lib.hid hfull
          clear hfull
          go_wp2_with fail
          go_meet
          exact ⟨rfl, r, rfl, hr1, fun h => by rw [HR2.out h, HFU.out]⟩
    case rest =>
      obtain ⟨rfl, r, rfl, hr1, hr2⟩ := hcut
      have HR2 := Lib.hid hr2
      have r0 : (0 : Int) ≤ (r : Int) := by omega
      have r1 : (r : Int) ≤ 500000001000000 := by omega
      clear hr2
      go_wp2_with fail
      clear x0 x1 x2 x3 x4
      go_loopg [5, 7] k (fun i v u wr => ∃ (m r : Nat), i = k - m ∧ v = .int .i64 (r : Nat) ∧ u = .int .i64 (m : Nat) ∧ m ≤ k ∧ r ≤ most + 500000000000000 ∧ (r < most → r = 1 + ll + nl + el + (t.names.map List.length).sum + Sx.sizeL (t.parts.take m)) ∧ Below L W wr ∧ wr.heap[L]? = wc.heap[L]?)
      case atStart => exact ⟨0, r, rfl, rfl, rfl, Nat.zero_le _, hr1, by have := HR2.out; simpa [Sx.sizeL] using this, HB2.out, rfl⟩
      case round =>
        obtain ⟨m, q, hi, rfl, rfl, hm, hq1, hq2, hwr, hbr⟩ := hrel
        rw [HBX.out] at hbr
        obtain ⟨x0, x1, x2, x3, x4⟩ := five_cells hbr
        have hlr := lt_of_block hbr
        have hLs : L ≤ wr.heap.size := by omega
        have HI := Lib.hid hi
        have HQ2 := Lib.hid hq2
        have HWR := Lib.hid hwr
        have HBR := Lib.hid hbr
        have m0 : (0 : Int) ≤ (m : Int) := by omega
        have q0 : (0 : Int) ≤ (q : Int) := by omega
        have q1 : (q : Int) ≤ 500000001000000 := by omega
        clear hi hq2 hwr hbr
        by_cases hlt : m < k
        · have hmi : (m : Int) < (k : Int) := by omega
          by_cases hrm : q < most
          · have hri : (q : Int) < (most : Int) := by omega
            have hmp : m < t.parts.length := by have := HK.out; omega
            obtain ⟨g, off, An1, cn1, Ae1, ce1, Aq, cq, rfl, hty, hc5⟩ := HP.out.spot m hmp
            rw [HL.out] at hc5
            obtain ⟨hg, c0, c1, c2, c3, c4⟩ := hc5 wr HWR.out
            have hst := Sx.size_take hmp
            have hff := HF6.out _ (List.getElem_mem hmp)
            have hsm := Sx.size_mem (List.getElem_mem hmp)
            obtain ⟨p, hpe⟩ : ∃ p, t.parts[m]'hmp = p := ⟨_, rfl⟩
            rw [hpe] at c0 c1 c2 c3 c4 hty hst hff hsm
            obtain ⟨d, hd⟩ : ∃ d : Int, (most : Int) - (q : Int) = d := ⟨_, rfl⟩
            have d0 : 1 ≤ d := by omega
            have d1 : d ≤ 1000000 := by omega
            have hre := HIH.out p (by have := HN.out; have := HSP.out; omega) hff (most - q) _ wr (by omega) (by omega) (IsTy.below (by rw [HL.out]; exact HWR.out) _ _ hty)
            rw [show ((most - q : Nat) : Int) = d by omega] at hre
            have HRE := Lib.hid hre
            have HST := Lib.hid hst
            have HQR := Lib.hid (HQ2.out hrm)
            clear hre hst hff hsm hpe hty hc5
            go_wp2_with fail
            refine HRE.out.mono ?_
            rintro e w5 ⟨z, rfl, hz1, hz2, hb5⟩
            have z0 : (0 : Int) ≤ (z : Int) := by omega
            have hz3 : z + q ≤ most + 500000000000000 := by omega
            have z1 : (z : Int) ≤ 500000001000000 := by omega
            have z2 : (q : Int) + (z : Int) ≤ 500000001000000 := by omega
            have HZ2 := Lib.hid hz2
            clear hz2
            go_wp2_with fail
            go_roundg (k - (m + 1))
            case measure => have := HI.out; omega
            case rel =>
              refine ⟨m + 1, q + z, rfl, by simp, by simp, hlt, by omega, fun hlz => ?_, HWR.out.trans (hb5.mono hLs), ?_⟩
              · rw [HST.out, HZ2.out (by omega), HQR.out]; omega
              · rw [HBX.out, hb5.block L hlr, HBR.out]
          · have hri : decide ((q : Int) < (most : Int)) = false := by rw [decide_eq_false_iff_not]; omega
            have hri2 : ¬ (q : Int) < (most : Int) := by omega
            go_wp2_with fail
            go_ret
            exact ⟨q, rfl, hq1, fun h => absurd h hrm, by rw [HL.out]; exact HWR.out⟩
        · have hmi : decide ((m : Int) < (k : Int)) = false := by rw [decide_eq_false_iff_not]; omega
          have hmi2 : ¬ (m : Int) < (k : Int) := by omega
          have hfull := List.take_of_length_le (show t.parts.length ≤ m by have := HK.out; omega)
          have HFU := Lib.hid hfull
          clear hfull
          go_wp2_with fail
          go_ret
          refine ⟨q, rfl, hq1, fun h => ?_, by rw [HL.out]; exact HWR.out⟩
          have := HQ2.out h
          rw [HFU.out] at this
          rw [this, HSP.out]

end Go.Proofs.YtdncljdfmdgdaaaGreatDoor

namespace Go.Proofs.YtdncljdfmdgdaaaGreatDoor
open Go.ChangeShapes Go.WideShapes Go.ChangeAt Go.RowKit
set_option linter.unusedSimpArgs false
set_option linter.unusedVariables false

/-- Every string, every slice in it has room in any memory. -/
def Fit {H : Type} (P : Program) (t : TypeId) (d : DataW H) : Prop := ∀ n ∈ d.weights P t, n ≤ reachBytes
theorem Fit.each {H : Type} {P : Program} : ∀ {ts : List TypeId} {ds : List (DataW H)} {i : Nat} {t : TypeId} {d : DataW H}, (∀ n ∈ DataW.weightsEach P ts ds, n ≤ reachBytes) → ts[i]? = some t → ds[i]? = some d → Fit P t d
  | [], ds, i, t, d, h, h1, h2 => by simp at h1
  | t :: ts, [], i, u, d, h, h1, h2 => by simp at h2
  | t :: ts, d :: ds, 0, u, e, h, h1, h2 => by
    simp at h1 h2
    subst h1 h2
    rw [DataW.weightsEach] at h
    exact fun n hn => h n (List.mem_append_left _ hn)
  | t :: ts, d :: ds, i + 1, u, e, h, h1, h2 => by
    rw [DataW.weightsEach] at h
    exact Fit.each (fun n hn => h n (List.mem_append_right _ hn)) (by simpa using h1) (by simpa using h2)
theorem Fit.all {H : Type} {P : Program} {t : TypeId} : ∀ {ds : List (DataW H)} {i : Nat} {d : DataW H}, (∀ n ∈ DataW.weightsAll P t ds, n ≤ reachBytes) → ds[i]? = some d → Fit P t d
  | [], i, d, h, h2 => by simp at h2
  | d :: ds, 0, e, h, h2 => by
    simp at h2
    subst h2
    rw [DataW.weightsAll] at h
    exact fun n hn => h n (List.mem_append_left _ hn)
  | d :: ds, i + 1, e, h, h2 => by
    rw [DataW.weightsAll] at h
    exact Fit.all (fun n hn => h n (List.mem_append_right _ hn)) (by simpa using h2)

section
variable {H : Type} {enc : TypeId × Value → H} {P : Program} {W : World} {sp : Nat → Bool} {held : Bool}

theorem trod_field {t ty : TypeId} {off : Nat} (i : Nat) {fuel : Nat} {cs : List Value} {x : DataW H × List MemPlace} (hu : P.underlying t = some (.struct (P.fieldsOf t))) (hi : (P.fieldsOf t)[i]?.map (fun f => (f.type, f.offset)) = some (ty, off))
    (h : DataW.trod enc P W 0 sp held fuel t cs = some x) (hf : Fit P t x.1) :
    ∃ n y, n < fuel ∧ DataW.trod enc P W 0 sp held n ty ((cs.drop off).take (P.cellsOf ty)) = some y ∧ Fit P ty y.1 := by
  obtain ⟨xs, n, rfl, rfl, hl, hlen, hfs⟩ := DataW.trod_struct hu h
  obtain ⟨f, hfi, he⟩ := Option.map_eq_some_iff.1 hi
  injection he with e1 e2
  have h1 := hfs i f hfi
  rw [e1, e2] at h1
  have hil : i < xs.length := by rw [hlen]; exact (Array.getElem?_eq_some_iff.1 hfi).1
  rw [List.getElem?_eq_getElem hil] at h1
  refine ⟨n, _, Nat.lt_succ_self n, h1, ?_⟩
  unfold Fit at hf
  simp only [DataW.weights, hu] at hf
  exact Fit.each (i := i) hf (by rw [List.getElem?_map, Array.getElem?_toList, hfi, ← e1]; rfl) (by rw [List.getElem?_map, List.getElem?_eq_getElem hil]; rfl)
theorem trod_length {t : TypeId} {fuel : Nat} {cs : List Value} {x : DataW H × List MemPlace} (hu : P.underlying t = some (.struct (P.fieldsOf t))) (h : DataW.trod enc P W 0 sp held fuel t cs = some x) : cs.length = P.cellsOf t := by
  obtain ⟨xs, n, rfl, rfl, hl, hlen, hfs⟩ := DataW.trod_struct hu h
  exact hl
theorem cells_get {a : Addr} {n : Nat} {cs : List Value} (h : W.cells? 0 a n = some cs) : cs.length = n ∧ ∀ j, j < n → W.cell? (a.add j) = cs[j]? := by
  unfold World.cells? at h
  rw [if_pos (Nat.zero_le _)] at h
  refine ⟨by simpa using mapM_some_length h, fun j hj => mapM_some_get h j j (by simp [hj])⟩
theorem trod_row {t e : TypeId} {c fuel : Nat} {v : Value} {x : DataW H × List MemPlace} (hu : P.underlying t = some (.slice e)) (hc : P.cellsOf e = c) (hc1 : 0 < c) (hb : 1 ≤ P.bytesOf e)
    (h : DataW.trod enc P W 0 sp held fuel t [v] = some x) (hf : Fit P t x.1) :
    ∃ a len cap, v = .slice a len cap ∧ len ≤ cap ∧ len ≤ reachBytes ∧ ∀ i, i < len → ∃ g off cs n y, a = some ⟨g, off, none⟩ ∧ n < fuel ∧ cs.length = c ∧ (∀ j, j < c → W.cell? ⟨g, off + i * c + j, none⟩ = cs[j]?) ∧
      DataW.trod enc P W 0 sp held n e cs = some y ∧ Fit P e y.1 := by
  rcases DataW.trod_slice hu h with ⟨hcs, _⟩ | ⟨a, len', cap', elems, rest, n, rfl, hcs, rfl, _, hlc, hcm, hlen, hel, _⟩
  · injection hcs with hcs _
    exact ⟨none, 0, 0, hcs, Nat.le_refl _, Nat.zero_le _, fun i hi => by omega⟩
  · injection hcs with hcs _
    subst hcs
    unfold Fit at hf
    simp only [DataW.weights, hu] at hf
    refine ⟨some a, len', cap', rfl, hlc, ?_, fun i hi => ?_⟩
    · have := hf _ (List.mem_cons_self)
      simp only [List.length_map] at this
      have h2 := Nat.le_mul_of_pos_right (elems.length + rest.length) hb
      omega
    · have he := hel i hi
      rw [List.getElem?_eq_getElem (by omega)] at he
      obtain ⟨cs, hcc, ht⟩ := Option.bind_eq_some_iff.1 he
      rw [hc] at hcc
      obtain ⟨hl, hg⟩ := cells_get hcc
      have he0 := hel 0 (by omega)
      rw [List.getElem?_eq_getElem (show 0 < elems.length by omega)] at he0
      obtain ⟨cs0, hcc0, -⟩ := Option.bind_eq_some_iff.1 he0
      rw [hc] at hcc0
      obtain ⟨hl0, hg0⟩ := cells_get hcc0
      obtain ⟨b, off, spot⟩ := a
      have h0 := hg0 0 hc1
      rw [List.getElem?_eq_getElem (show 0 < cs0.length by omega)] at h0
      have hspot : spot = none := by simpa [Addr.add] using World.cell?_spot h0
      subst hspot
      refine ⟨b, off, cs, n, _, rfl, Nat.lt_succ_self n, hl, fun j hj => ?_, ht, ?_⟩
      · have := hg j hj
        rw [add_none, add_none] at this
        exact this
      · exact Fit.all (i := i) (fun m hm => hf m (List.mem_cons_of_mem _ (List.mem_append_left _ hm))) (by rw [List.getElem?_map, List.getElem?_eq_getElem (by omega)]; rfl)
theorem trod_str {t : TypeId} {fuel : Nat} {v : Value} {x : DataW H × List MemPlace} (hu : P.underlying t = some .string) (h : DataW.trod enc P W 0 sp held fuel t [v] = some x) (hf : Fit P t x.1) :
    ∃ s : Lx.Bytes, v = .string ⟨s.toArray⟩ ∧ s.length ≤ reachBytes := by
  obtain ⟨s, e, hx, _⟩ := DataW.trod_string hu h
  subst hx
  injection e with e
  refine ⟨s.data.toList, by rw [mk_back]; exact e, ?_⟩
  have := hf s.data.toList.length (by simp [DataW.weights])
  exact this
end

theorem list_five {l : List Value} (h : l.length = 5) : ∃ a b c d e, l = [a, b, c, d, e] := by
  match l, h with
  | [a, b, c, d, e], _ => exact ⟨a, b, c, d, e, rfl⟩
theorem list_one {l : List Value} (h : l.length = 1) : ∃ a, l = [a] := by
  match l, h with
  | [a], _ => exact ⟨a, rfl⟩

theorem uTy : Tryz.prog.underlying 26 = some (.struct (Tryz.prog.fieldsOf 26)) := by kernel_rfl
theorem cTy : Tryz.prog.cellsOf 26 = 5 := by kernel_rfl
theorem bTy : 1 ≤ Tryz.prog.bytesOf 26 := of_decide_eq_true (by kernel_rfl)
theorem bStr : 1 ≤ Tryz.prog.bytesOf 9 := of_decide_eq_true (by kernel_rfl)
theorem bBool : 1 ≤ Tryz.prog.bytesOf 4 := of_decide_eq_true (by kernel_rfl)
theorem cBool : Tryz.prog.cellsOf 4 = 1 := by kernel_rfl
theorem cSls : Tryz.prog.cellsOf 22 = 1 := by kernel_rfl
theorem cSlb : Tryz.prog.cellsOf 23 = 1 := by kernel_rfl
theorem cSlt : Tryz.prog.cellsOf 24 = 1 := by kernel_rfl
theorem uSls : Tryz.prog.underlying 22 = some (.slice 9) := by kernel_rfl
theorem uSlb : Tryz.prog.underlying 23 = some (.slice 4) := by kernel_rfl
theorem uSlt : Tryz.prog.underlying 24 = some (.slice 26) := by kernel_rfl
theorem uBool : Tryz.prog.underlying 4 = some .bool := by kernel_rfl
theorem fTy0 : (Tryz.prog.fieldsOf 26)[0]?.map (fun f => (f.type, f.offset)) = some (3, 0) := by kernel_rfl
theorem fTy1 : (Tryz.prog.fieldsOf 26)[1]?.map (fun f => (f.type, f.offset)) = some (9, 1) := by kernel_rfl
theorem fTy2 : (Tryz.prog.fieldsOf 26)[2]?.map (fun f => (f.type, f.offset)) = some (22, 2) := by kernel_rfl
theorem fTy3 : (Tryz.prog.fieldsOf 26)[3]?.map (fun f => (f.type, f.offset)) = some (23, 3) := by kernel_rfl
theorem fTy4 : (Tryz.prog.fieldsOf 26)[4]?.map (fun f => (f.type, f.offset)) = some (24, 4) := by kernel_rfl

section
variable {H : Type} {enc : TypeId × Value → H} {W : World} {sp : Nat → Bool} {held : Bool}

theorem strs_of_trod {fuel : Nat} {v : Value} {x : DataW H × List MemPlace} (h : DataW.trod enc Tryz.prog W 0 sp held fuel 22 [v] = some x) (hf : Fit Tryz.prog 22 x.1) :
    ∃ ns, StrRow W v ns ∧ ns.length ≤ reachBytes ∧ ∀ s ∈ ns, s.length ≤ reachBytes := by
  obtain ⟨a, len, cap, rfl, hlc, hlr, hi⟩ := trod_row uSls cS Nat.one_pos bStr h hf
  have key : ∀ i, i < len → ∃ s : Lx.Bytes, (∃ g off, a = some ⟨g, off, none⟩ ∧ W.cell? ⟨g, off + i, none⟩ = some (.string ⟨s.toArray⟩)) ∧ s.length ≤ reachBytes := by
    intro i hil
    obtain ⟨g, off, cs, n, y, rfl, _, hl, hc, ht, hfy⟩ := hi i hil
    obtain ⟨u, rfl⟩ := list_one hl
    obtain ⟨s, rfl, hs⟩ := trod_str Tryz.underlying9 ht hfy
    exact ⟨s, ⟨g, off, rfl, by simpa using hc 0 Nat.one_pos⟩, hs⟩
  obtain ⟨ns, hl, hp⟩ := list_of_all len key
  refine ⟨ns, ⟨a, cap, by rw [hl], fun i h => (hp i h).1⟩, by omega, fun s hs => ?_⟩
  obtain ⟨i, hi, rfl⟩ := List.getElem_of_mem hs
  exact (hp i hi).2
theorem bools_of_trod {fuel : Nat} {v : Value} {x : DataW H × List MemPlace} (h : DataW.trod enc Tryz.prog W 0 sp held fuel 23 [v] = some x) (hf : Fit Tryz.prog 23 x.1) :
    ∃ es, BoolRow W v es ∧ es.length ≤ reachBytes := by
  obtain ⟨a, len, cap, rfl, hlc, hlr, hi⟩ := trod_row uSlb cBool Nat.one_pos bBool h hf
  have key : ∀ i, i < len → ∃ s : Bool, (∃ g off, a = some ⟨g, off, none⟩ ∧ W.cell? ⟨g, off + i, none⟩ = some (.bool s)) := by
    intro i hil
    obtain ⟨g, off, cs, n, y, rfl, _, hl, hc, ht, hfy⟩ := hi i hil
    obtain ⟨u, rfl⟩ := list_one hl
    obtain ⟨s, e, _⟩ := DataW.trod_bool uBool ht
    injection e with e
    subst e
    exact ⟨s, g, off, rfl, by simpa using hc 0 Nat.one_pos⟩
  obtain ⟨ns, hl, hp⟩ := list_of_all len key
  exact ⟨ns, ⟨a, cap, by rw [hl], fun i h => hp i h⟩, by omega⟩

/-- A type read off five cells. -/
def TyRead (W : World) (cs : List Value) : Prop := ∃ v0 v1 v2 v3 v4 t, cs = [v0, v1, v2, v3, v4] ∧ IsTy W (.agg #[v0, v1, v2, v3, v4]) t ∧ Sx.fits t
theorem fitsL_of : ∀ {l : List Sx.Ty}, (∀ t ∈ l, Sx.fits t) → Sx.fitsL l
  | [], h => by rw [Sx.fitsL]; trivial
  | t :: l, h => by
    rw [Sx.fitsL]
    exact ⟨h t List.mem_cons_self, fitsL_of fun u hu => h u (List.mem_cons_of_mem _ hu)⟩
theorem tys_of_trod {fuel : Nat} (ih : ∀ n, n < fuel → ∀ cs x, DataW.trod enc Tryz.prog W 0 sp held n 26 cs = some x → Fit Tryz.prog 26 x.1 → TyRead W cs)
    {v : Value} {x : DataW H × List MemPlace} (h : DataW.trod enc Tryz.prog W 0 sp held fuel 24 [v] = some x) (hf : Fit Tryz.prog 24 x.1) :
    ∃ l, TyRow W v l ∧ l.length ≤ reachBytes ∧ Sx.fitsL l := by
  obtain ⟨a, len, cap, rfl, hlc, hlr, hi⟩ := trod_row uSlt cTy (by decide) bTy h hf
  have key : ∀ i, i < len → ∃ t : Sx.Ty, (∃ g off v0 v1 v2 v3 v4, a = some ⟨g, off, none⟩ ∧ W.cell? ⟨g, off + (0 + i) * 5, none⟩ = some v0 ∧ W.cell? ⟨g, off + (0 + i) * 5 + 1, none⟩ = some v1 ∧
      W.cell? ⟨g, off + (0 + i) * 5 + 2, none⟩ = some v2 ∧ W.cell? ⟨g, off + (0 + i) * 5 + 3, none⟩ = some v3 ∧ W.cell? ⟨g, off + (0 + i) * 5 + 4, none⟩ = some v4 ∧ IsTy W (.agg #[v0, v1, v2, v3, v4]) t) ∧ Sx.fits t := by
    intro i hil
    obtain ⟨g, off, cs, n, y, rfl, hn, hl, hc, ht, hfy⟩ := hi i hil
    obtain ⟨v0, v1, v2, v3, v4, t, rfl, hty, hfit⟩ := ih n hn cs y ht hfy
    rw [Nat.zero_add]
    exact ⟨t, ⟨g, off, v0, v1, v2, v3, v4, rfl, hc 0 (by decide), hc 1 (by decide), hc 2 (by decide), hc 3 (by decide), hc 4 (by decide), hty⟩, hfit⟩
  obtain ⟨l, hl, hp⟩ := list_of_all len key
  refine ⟨l, ⟨a, cap, by rw [hl], by omega, IsTys.mk fun m h => (hp m h).1⟩, by omega, fitsL_of fun t ht => ?_⟩
  obtain ⟨i, hi, rfl⟩ := List.getElem_of_mem ht
  exact (hp i hi).2
set_option maxRecDepth 100000 in
theorem ty_of_trod : ∀ (fuel : Nat) (cs : List Value) (x : DataW H × List MemPlace), DataW.trod enc Tryz.prog W 0 sp held fuel 26 cs = some x → Fit Tryz.prog 26 x.1 → TyRead W cs := by
  intro fuel
  induction fuel using Nat.strongRecOn with
  | _ fuel ih =>
    intro cs x h hf
    obtain ⟨v0, v1, v2, v3, v4, rfl⟩ := list_five ((trod_length uTy h).trans cTy)
    obtain ⟨n0, y0, l0, h0, q0⟩ := trod_field 0 uTy fTy0 h hf
    obtain ⟨n1, y1, l1, h1, q1⟩ := trod_field 1 uTy fTy1 h hf
    obtain ⟨n2, y2, l2, h2, q2⟩ := trod_field 2 uTy fTy2 h hf
    obtain ⟨n3, y3, l3, h3, q3⟩ := trod_field 3 uTy fTy3 h hf
    obtain ⟨n4, y4, l4, h4, q4⟩ := trod_field 4 uTy fTy4 h hf
    rw [cI] at h0
    rw [cS] at h1
    rw [cSls] at h2
    rw [cSlb] at h3
    rw [cSlt] at h4
    simp only [List.drop_zero, List.drop_succ_cons, List.take_succ_cons, List.take_zero] at h0 h1 h2 h3 h4
    obtain ⟨k, e0, _, _⟩ := DataW.trod_int Tryz.underlying3 h0
    injection e0 with e0
    subst e0
    obtain ⟨nm, rfl, z1⟩ := trod_str Tryz.underlying9 h1 q1
    obtain ⟨ns, r2, z2, z2'⟩ := strs_of_trod h2 q2
    obtain ⟨es, r3, z3⟩ := bools_of_trod h3 q3
    obtain ⟨ps, ⟨A, c, rfl, hc, r4⟩, z4, z4'⟩ := tys_of_trod (fun n hn => ih n (by omega)) h4 q4
    refine ⟨_, _, _, _, _, .mk k nm ns es ps, rfl, ?_, ?_⟩
    · rw [IsTy]
      exact ⟨_, _, A, c, rfl, r2, r3, hc, r4⟩
    · rw [Sx.fits]
      exact ⟨z1, z2, z3, z4, z2', z4'⟩
/-- A law's argument: a type. -/
def TyArg (W : World) (v : Value) (t : Sx.Ty) : Prop := IsTy W v t ∧ Sx.fits t
set_option maxRecDepth 100000 in
theorem open_ty {base : Nat} {v : Value} {d : DataW H} {p : List MemPlace} (hval : Value.okWide Tryz.prog W .any base 26 v) (hd : DataW.Trod enc Tryz.prog W 0 sp held 26 v d p) (hf : Fit Tryz.prog 26 d) :
    ∃ t, TyArg W v t := by
  obtain ⟨cs, rfl, hsz⟩ := okWide_struct uTy hval
  obtain ⟨fuel, h⟩ := hd
  obtain ⟨v0, v1, v2, v3, v4, t, he, ht, hfit⟩ := ty_of_trod fuel _ _ h hf
  refine ⟨t, ?_, hfit⟩
  have : cs = #[v0, v1, v2, v3, v4] := by
    apply Array.toList_inj.1
    exact he
  rw [this]
  exact ht
end

end Go.Proofs.YtdncljdfmdgdaaaGreatDoor

namespace Go.Proofs.YtdncljdfmdgdaaaGreatDoor
open Go.RowKit Go.Shelf
set_option linter.unusedSimpArgs false
set_option linter.unusedVariables false

theorem retInt {a b : Int} (h : a = b) : Ending.returned (.int .i64 a) = .returned (.int .i64 b) := by rw [h]

set_option maxRecDepth 100000 in
set_option maxHeartbeats 8000000 in
theorem refNodes : ∀ (n : Nat) (t : Sx.Ty), Sx.size t ≤ n → n ≤ 1000000 → ∀ (v : Value) (W : World), IsTy W v t →
    Calls Tryz.prog 43 #[v] W fun e W' => e = .returned (.int .i64 (Sx.nodes t : Nat)) ∧ Below W.heap.size W W' := by
  intro n
  induction n with
  | zero => intro t h; have := Sx.size_pos t; omega
  | succ n ih =>
    intro t hn hn1 v W ht
    obtain ⟨An, cn, Ae, ce, Ap, cp, rfl, -, -, hp⟩ := ht.agg
    have hsp := Sx.size_parts t
    have hlen := Sx.length_size t.parts
    have hbd := Sx.nodesL_size t.parts
    have hfp := Sx.nodes_parts t
    obtain ⟨kd, hkd⟩ : ∃ kd, t.kind = kd := ⟨_, rfl⟩
    obtain ⟨k, hk⟩ : ∃ k, t.parts.length = k := ⟨_, rfl⟩
    rw [hk] at hp
    rw [hkd, hk]
    rw [hkd] at hfp
    have k0 : (0 : Int) ≤ (k : Int) := by omega
    have k1 : (k : Int) ≤ 1000000 := by omega
    have HIH := Lib.hid ih
    have HSP := Lib.hid hsp
    have HN := Lib.hid (show Sx.size t ≤ n + 1 ∧ n + 1 ≤ 1000000 from ⟨hn, hn1⟩)
    have HP := Lib.hid hp
    have HK := Lib.hid hk
    have HFP := Lib.hid hfp
    have HBD := Lib.hid hbd
    obtain ⟨L, hL⟩ : ∃ L, W.heap.size = L := ⟨_, rfl⟩
    obtain ⟨w2, hw2⟩ : ∃ w2, W.alloc (.cells #[.int .i64 kd, .string ⟨t.name.toArray⟩, .slice An t.names.length cn, .slice Ae t.embeds.length ce, .slice Ap k cp] 26) = w2 := ⟨_, rfl⟩
    have hbox : w2.heap[L]? = some (.cells #[.int .i64 kd, .string ⟨t.name.toArray⟩, .slice An t.names.length cn, .slice Ae t.embeds.length ce, .slice Ap k cp] 26 (0, 0)) := by rw [← hw2, ← hL]; exact heap_alloc_new W _
    have hb2 : Below L W w2 := by rw [← hw2, ← hL]; exact grown_below (World.grownBy_alloc W _ none)
    obtain ⟨x0, x1, x2, x3, x4⟩ := five_cells hbox
    have hl2 := lt_of_block hbox
    have HBX := Lib.hid hbox
    have HB2 := Lib.hid hb2
    have HL := Lib.hid hL
    clear ih hsp hn hn1 hp hk ht hbox hb2 hlen hbd hfp hkd
    by_cases h4 : kd = 4
    · subst h4
      go_enter Tryz.func43, Tryz.ntmps43
      go_wp2_with fail
      clear x0 x1 x2 x3 x4
      go_loopg [3, 4] k (fun i v u wr => ∃ (m q : Nat), i = k - m ∧ v = .int .i64 (q : Nat) ∧ u = .int .i64 (m : Nat) ∧ m ≤ k ∧ q = 0 + Sx.nodesL (t.parts.take m) ∧ Below L W wr ∧ wr.heap[L]? = w2.heap[L]?)
      case atStart => exact ⟨0, 0, rfl, rfl, rfl, Nat.zero_le _, by simp [Sx.nodesL], HB2.out, rfl⟩
      case round =>
        obtain ⟨m, q, hi, rfl, rfl, hm, hq, hwr, hbr⟩ := hrel
        rw [HBX.out] at hbr
        obtain ⟨x0, x1, x2, x3, x4⟩ := five_cells hbr
        have hlr := lt_of_block hbr
        have hLs : L ≤ wr.heap.size := by omega
        have hle := Sx.nodesL_take_le t.parts m
        have hqb : q ≤ 1000001 := by have := HBD.out; have := HSP.out; have := HN.out; omega
        have HI := Lib.hid hi
        have HQ := Lib.hid hq
        have HWR := Lib.hid hwr
        have HBR := Lib.hid hbr
        have m0 : (0 : Int) ≤ (m : Int) := by omega
        have q0 : (0 : Int) ≤ (q : Int) := by omega
        have q1 : (q : Int) ≤ 1000001 := by omega
        clear hi hq hwr hbr hle hqb
        by_cases hlt : m < k
        · have hmi : (m : Int) < (k : Int) := by omega
          have hmp : m < t.parts.length := by have := HK.out; omega
          obtain ⟨g, off, An1, cn1, Ae1, ce1, Aq, cq, rfl, hty, hc5⟩ := HP.out.spot m hmp
          rw [HL.out] at hc5
          obtain ⟨hg, c0, c1, c2, c3, c4⟩ := hc5 wr HWR.out
          have hst := Sx.nodes_take hmp
          have hsm := Sx.size_mem (List.getElem_mem hmp)
          obtain ⟨p, hpe⟩ : ∃ p, t.parts[m]'hmp = p := ⟨_, rfl⟩
          rw [hpe] at c0 c1 c2 c3 c4 hty hst hsm
          have hpb := Sx.nodes_size p
          have hre := HIH.out p (by have := HN.out; have := HSP.out; omega) (by have := HN.out; omega) _ wr (IsTy.below (by rw [HL.out]; exact HWR.out) _ _ hty)
          obtain ⟨z, hz⟩ : ∃ z, Sx.nodes p = z := ⟨_, rfl⟩
          rw [hz] at hst hre hpb
          have z0 : (0 : Int) ≤ (z : Int) := by omega
          have z1 : (z : Int) ≤ 1000000 := by have := HN.out; have := HSP.out; omega
          have HRE := Lib.hid hre
          have HST := Lib.hid hst
          clear hre hst hsm hpe hty hc5 hz hpb
          go_wp2_with fail
          refine HRE.out.mono ?_
          rintro e w5 ⟨rfl, hb5⟩
          go_wp2_with fail
          go_roundg (k - (m + 1))
          case measure => have := HI.out; omega
          case rel => exact ⟨m + 1, q + z, rfl, by simp, by simp, hlt, by rw [HST.out]; have := HQ.out; omega, HWR.out.trans (hb5.mono hLs), by rw [HBX.out, hb5.block L hlr, HBR.out]⟩
        · have hmi : ¬ (m : Int) < (k : Int) := by omega
          have HFU := Lib.hid (List.take_of_length_le (show t.parts.length ≤ m by have := HK.out; omega))
          go_wp2_with fail
          go_ret
          refine ⟨?_, by first | exact HWR.out | (rw [HL.out]; exact HWR.out)⟩
          have h9 := HQ.out
          rw [HFU.out] at h9
          rw [HFP.out, h9]
          simp
    · have b4 : (kd == 4) = false := by rw [beq_eq_false_iff_ne]; exact h4
      have H4 := Lib.hid h4
      clear h4
      go_enter Tryz.func43, Tryz.ntmps43
      go_wp2_with fail
      clear x0 x1 x2 x3 x4
      go_loopg [3, 4] k (fun i v u wr => ∃ (m q : Nat), i = k - m ∧ v = .int .i64 (q : Nat) ∧ u = .int .i64 (m : Nat) ∧ m ≤ k ∧ q = 1 + Sx.nodesL (t.parts.take m) ∧ Below L W wr ∧ wr.heap[L]? = w2.heap[L]?)
      case atStart => exact ⟨0, 1, rfl, rfl, rfl, Nat.zero_le _, by simp [Sx.nodesL], HB2.out, rfl⟩
      case round =>
        obtain ⟨m, q, hi, rfl, rfl, hm, hq, hwr, hbr⟩ := hrel
        rw [HBX.out] at hbr
        obtain ⟨x0, x1, x2, x3, x4⟩ := five_cells hbr
        have hlr := lt_of_block hbr
        have hLs : L ≤ wr.heap.size := by omega
        have hle := Sx.nodesL_take_le t.parts m
        have hqb : q ≤ 1000001 := by have := HBD.out; have := HSP.out; have := HN.out; omega
        have HI := Lib.hid hi
        have HQ := Lib.hid hq
        have HWR := Lib.hid hwr
        have HBR := Lib.hid hbr
        have m0 : (0 : Int) ≤ (m : Int) := by omega
        have q0 : (0 : Int) ≤ (q : Int) := by omega
        have q1 : (q : Int) ≤ 1000001 := by omega
        clear hi hq hwr hbr hle hqb
        by_cases hlt : m < k
        · have hmi : (m : Int) < (k : Int) := by omega
          have hmp : m < t.parts.length := by have := HK.out; omega
          obtain ⟨g, off, An1, cn1, Ae1, ce1, Aq, cq, rfl, hty, hc5⟩ := HP.out.spot m hmp
          rw [HL.out] at hc5
          obtain ⟨hg, c0, c1, c2, c3, c4⟩ := hc5 wr HWR.out
          have hst := Sx.nodes_take hmp
          have hsm := Sx.size_mem (List.getElem_mem hmp)
          obtain ⟨p, hpe⟩ : ∃ p, t.parts[m]'hmp = p := ⟨_, rfl⟩
          rw [hpe] at c0 c1 c2 c3 c4 hty hst hsm
          have hpb := Sx.nodes_size p
          have hre := HIH.out p (by have := HN.out; have := HSP.out; omega) (by have := HN.out; omega) _ wr (IsTy.below (by rw [HL.out]; exact HWR.out) _ _ hty)
          obtain ⟨z, hz⟩ : ∃ z, Sx.nodes p = z := ⟨_, rfl⟩
          rw [hz] at hst hre hpb
          have z0 : (0 : Int) ≤ (z : Int) := by omega
          have z1 : (z : Int) ≤ 1000000 := by have := HN.out; have := HSP.out; omega
          have HRE := Lib.hid hre
          have HST := Lib.hid hst
          clear hre hst hsm hpe hty hc5 hz hpb
          go_wp2_with fail
          refine HRE.out.mono ?_
          rintro e w5 ⟨rfl, hb5⟩
          go_wp2_with fail
          go_roundg (k - (m + 1))
          case measure => have := HI.out; omega
          case rel => exact ⟨m + 1, q + z, rfl, by simp, by simp, hlt, by rw [HST.out]; have := HQ.out; omega, HWR.out.trans (hb5.mono hLs), by rw [HBX.out, hb5.block L hlr, HBR.out]⟩
        · have hmi : ¬ (m : Int) < (k : Int) := by omega
          have HFU := Lib.hid (List.take_of_length_le (show t.parts.length ≤ m by have := HK.out; omega))
          go_wp2_with fail
          go_ret
          refine ⟨?_, by first | exact HWR.out | (rw [HL.out]; exact HWR.out)⟩
          have h9 := HQ.out
          rw [HFU.out] at h9
          rw [HFP.out, if_neg H4.out, h9]
          simp

set_option maxRecDepth 100000 in
set_option maxHeartbeats 8000000 in
theorem refDepth : ∀ (n : Nat) (t : Sx.Ty), Sx.size t ≤ n → n ≤ 1000000 → ∀ (v : Value) (W : World), IsTy W v t →
    Calls Tryz.prog 42 #[v] W fun e W' => e = .returned (.int .i64 (Sx.depth t : Nat)) ∧ Below W.heap.size W W' := by
  intro n
  induction n with
  | zero => intro t h; have := Sx.size_pos t; omega
  | succ n ih =>
    intro t hn hn1 v W ht
    obtain ⟨An, cn, Ae, ce, Ap, cp, rfl, -, -, hp⟩ := ht.agg
    have hsp := Sx.size_parts t
    have hlen := Sx.length_size t.parts
    have hbd := Sx.depthL_size t.parts
    have hfp := Sx.depth_parts t
    obtain ⟨kd, hkd⟩ : ∃ kd, t.kind = kd := ⟨_, rfl⟩
    obtain ⟨k, hk⟩ : ∃ k, t.parts.length = k := ⟨_, rfl⟩
    rw [hk] at hp
    rw [hkd, hk]
    have k0 : (0 : Int) ≤ (k : Int) := by omega
    have k1 : (k : Int) ≤ 1000000 := by omega
    have HIH := Lib.hid ih
    have HSP := Lib.hid hsp
    have HN := Lib.hid (show Sx.size t ≤ n + 1 ∧ n + 1 ≤ 1000000 from ⟨hn, hn1⟩)
    have HP := Lib.hid hp
    have HK := Lib.hid hk
    have HFP := Lib.hid hfp
    have HBD := Lib.hid hbd
    obtain ⟨L, hL⟩ : ∃ L, W.heap.size = L := ⟨_, rfl⟩
    obtain ⟨w2, hw2⟩ : ∃ w2, W.alloc (.cells #[.int .i64 kd, .string ⟨t.name.toArray⟩, .slice An t.names.length cn, .slice Ae t.embeds.length ce, .slice Ap k cp] 26) = w2 := ⟨_, rfl⟩
    have hbox : w2.heap[L]? = some (.cells #[.int .i64 kd, .string ⟨t.name.toArray⟩, .slice An t.names.length cn, .slice Ae t.embeds.length ce, .slice Ap k cp] 26 (0, 0)) := by rw [← hw2, ← hL]; exact heap_alloc_new W _
    have hb2 : Below L W w2 := by rw [← hw2, ← hL]; exact grown_below (World.grownBy_alloc W _ none)
    obtain ⟨x0, x1, x2, x3, x4⟩ := five_cells hbox
    have hl2 := lt_of_block hbox
    have HBX := Lib.hid hbox
    have HB2 := Lib.hid hb2
    have HL := Lib.hid hL
    clear ih hsp hn hn1 hp hk ht hbox hb2 hlen hbd hfp hkd
    go_enter Tryz.func42, Tryz.ntmps42
    go_wp2_with fail
    clear x0 x1 x2 x3 x4
    go_loopg [3, 4] k (fun i v u wr => ∃ (m q : Nat), i = k - m ∧ v = .int .i64 (q : Nat) ∧ u = .int .i64 (m : Nat) ∧ m ≤ k ∧ q = Sx.depthL (t.parts.take m) ∧ Below L W wr ∧ wr.heap[L]? = w2.heap[L]?)
    case atStart => exact ⟨0, 0, rfl, rfl, rfl, Nat.zero_le _, by simp [Sx.depthL], HB2.out, rfl⟩
    case round =>
      obtain ⟨m, q, hi, rfl, rfl, hm, hq, hwr, hbr⟩ := hrel
      rw [HBX.out] at hbr
      obtain ⟨x0, x1, x2, x3, x4⟩ := five_cells hbr
      have hlr := lt_of_block hbr
      have hLs : L ≤ wr.heap.size := by omega
      have hle := Sx.depthL_take_le t.parts m
      have hqb : q ≤ 1000001 := by have := HBD.out; have := HSP.out; have := HN.out; omega
      have HI := Lib.hid hi
      have HQ := Lib.hid hq
      have HWR := Lib.hid hwr
      have HBR := Lib.hid hbr
      have m0 : (0 : Int) ≤ (m : Int) := by omega
      have q0 : (0 : Int) ≤ (q : Int) := by omega
      have q1 : (q : Int) ≤ 1000001 := by omega
      clear hi hq hwr hbr hle hqb
      by_cases hlt : m < k
      · have hmi : (m : Int) < (k : Int) := by omega
        have hmp : m < t.parts.length := by have := HK.out; omega
        obtain ⟨g, off, An1, cn1, Ae1, ce1, Aq, cq, rfl, hty, hc5⟩ := HP.out.spot m hmp
        rw [HL.out] at hc5
        obtain ⟨hg, c0, c1, c2, c3, c4⟩ := hc5 wr HWR.out
        have hst := Sx.depth_take hmp
        have hsm := Sx.size_mem (List.getElem_mem hmp)
        obtain ⟨p, hpe⟩ : ∃ p, t.parts[m]'hmp = p := ⟨_, rfl⟩
        rw [hpe] at c0 c1 c2 c3 c4 hty hst hsm
        have hpb := Sx.depth_size p
        have hre := HIH.out p (by have := HN.out; have := HSP.out; omega) (by have := HN.out; omega) _ wr (IsTy.below (by rw [HL.out]; exact HWR.out) _ _ hty)
        obtain ⟨z, hz⟩ : ∃ z, Sx.depth p = z := ⟨_, rfl⟩
        rw [hz] at hst hre hpb
        have z0 : (0 : Int) ≤ (z : Int) := by omega
        have z1 : (z : Int) ≤ 1000000 := by have := HN.out; have := HSP.out; omega
        have HRE := Lib.hid hre
        have HST := Lib.hid hst
        clear hre hst hsm hpe hty hc5 hz hpb
        by_cases hzq : q < z
        · have hzi : (q : Int) < (z : Int) := by omega
          go_wp2_with fail
          refine HRE.out.mono ?_
          rintro e w5 ⟨rfl, hb5⟩
          go_wp2_with fail
          go_roundg (k - (m + 1))
          case measure => have := HI.out; omega
          case rel => exact ⟨m + 1, z, rfl, by simp, by simp, hlt, by rw [HST.out]; have := HQ.out; omega, HWR.out.trans (hb5.mono hLs), by rw [HBX.out, hb5.block L hlr, HBR.out]⟩
        · have hzi : ¬ (q : Int) < (z : Int) := by omega
          go_wp2_with fail
          refine HRE.out.mono ?_
          rintro e w5 ⟨rfl, hb5⟩
          go_wp2_with fail
          go_roundg (k - (m + 1))
          case measure => have := HI.out; omega
          case rel => exact ⟨m + 1, q, rfl, by simp, by simp, hlt, by rw [HST.out]; have := HQ.out; omega, HWR.out.trans (hb5.mono hLs), by rw [HBX.out, hb5.block L hlr, HBR.out]⟩
      · have hmi : ¬ (m : Int) < (k : Int) := by omega
        have HFU := Lib.hid (List.take_of_length_le (show t.parts.length ≤ m by have := HK.out; omega))
        go_wp2_with fail
        go_ret
        refine ⟨?_, by first | exact HWR.out | (rw [HL.out]; exact HWR.out)⟩
        have h9 := HQ.out
        rw [HFU.out] at h9
        rw [HFP.out, h9]
        exact retInt (a := ((Sx.depthL t.parts : Nat) : Int) + 1) (by omega)

end Go.Proofs.YtdncljdfmdgdaaaGreatDoor

namespace Go.Proofs.YtdncljdfmdgdaaaGreatDoor
open Go.RowKit Go.WideMaps
set_option linter.unusedSimpArgs false
set_option linter.unusedVariables false

/-- A row of the call's own reads as a row of texts. -/
theorem OwnS.row {w : World} {B : Nat} {v : Value} {l : List Lx.Bytes} (h : OwnS w B v l) : StrRow w v l := by
  obtain ⟨A, c, hv⟩ := h.slice
  refine ⟨A, c, hv, fun i hi => ?_⟩
  rcases h.2 with ⟨h1, h0⟩ | ⟨g, cap, cur, h1, _, h2, _, _, _, h3⟩
  · omega
  · rw [hv] at h1
    injection h1 with h1 _ _
    refine ⟨g, 0, h1, ?_⟩
    rw [cell_of h2, Nat.zero_add, ← Array.getElem?_toList, ← List.getElem?_take_of_lt (l := cur.toList) (j := l.length * 1) (by omega), h3]
    simp [strsV, hi]

set_option maxRecDepth 100000 in
set_option maxHeartbeats 8000000 in
theorem synNames (l : List Sx.Ty) (v : Value) (W : World) (hn : Sx.sizeL l ≤ 1000000) (hv : TyRow W v l) :
    Calls Tryz.prog 17 #[v] W fun e W' => ∃ A, e = .returned (.slice A (Sx.once [] (Sx.allNamesL l)).length (Sx.once [] (Sx.allNamesL l)).length) ∧ StrRow W' (.slice A (Sx.once [] (Sx.allNamesL l)).length (Sx.once [] (Sx.allNamesL l)).length) (Sx.once [] (Sx.allNamesL l)) ∧ Below W.heap.size W W' := by
  have hmm := @run_makeMap Tryz.prog
  obtain ⟨A, c, rfl, hcap, hl⟩ := hv
  have hv : TyRow W (.slice A l.length c) l := ⟨A, c, rfl, hcap, hl⟩
  have HV := Lib.hid hv
  clear hv hl
  obtain ⟨L, hL⟩ : ∃ L, W.heap.size = L := ⟨_, rfl⟩
  have hmet : ∀ X, (((W.alloc (.cells #[.slice none 0 0] 22)).alloc (.map #[] 0)).alloc (.cells #[.map (some (W.heap.size + 1))] 107)) = X → Met W.heap.size W.heap.size (W.heap.size + 1 + 1) (W.heap.size + 1) [] X ∧ Below W.heap.size W X := by
    rintro X rfl
    refine ⟨⟨Nat.le_refl _, by omega, by omega, ⟨.slice none 0 0, ((Boxed.new W _ _).alloc _).alloc _, World.ownsRow_nil _ _ _ _⟩, ?_, 0, .map [], Nat.le_refl _, ?_, Maps.isMap_empty, fun s => rfl⟩, ?_⟩
    · have := Boxed.new ((W.alloc (.cells #[.slice none 0 0] 22)).alloc (.map #[] 0)) 107 (.map (some (W.heap.size + 1)))
      simpa using this
    · have := (World.ownsMap_made (W.alloc (.cells #[.slice none 0 0] 22)) Tryz.prog 9 (plainElem (H := Unit) Tryz.prog 3)).alloc (.cells #[.map (some (W.heap.size + 1))] 107)
      simpa using this
    · exact (((Below.refl _ W).alloc (Nat.le_refl _) _).alloc (by simp) _).alloc (by simp; omega) _
  have HMET := Lib.hid hmet
  clear hmet
  go_enter Tryz.func17, Tryz.ntmps17
  obtain ⟨X, hX⟩ : ∃ X, (((W.alloc (.cells #[.slice none 0 0] 22)).alloc (.map #[] 0)).alloc (.cells #[.map (some (L + 1))] 107)) = X := ⟨_, rfl⟩
  have hh := HMET.out X (by rw [← hX, hL])
  have hcall := synNamesGo W W.heap.size (W.heap.size + 1 + 1) (W.heap.size + 1) (Sx.sizeL l) l _ [] X (Nat.le_refl _) (by simpa using hn) HV.out hh.2 hh.1
  rw [hL] at hcall
  have HC := Lib.hid hcall
  clear hcall hh
  go_wp2_with fail
  refine HC.out.mono ?_
  rintro e W3 ⟨rfl, ⟨-, -, -, ⟨u, hbl, ho⟩, -, -⟩, hb3, -⟩
  have cL := hbl.cell
  have hl3 := hbl.lt
  rw [List.nil_append] at ho
  obtain ⟨A', c', rfl⟩ := ho.slice
  have HO := Lib.hid ho
  have HB3 := Lib.hid hb3
  obtain ⟨r, hr⟩ : ∃ r, Sx.once [] (Sx.allNamesL l) = r := ⟨_, rfl⟩
  have HR := Lib.hid hr
  have hrl : r.length ≤ 1000000 := by
    have := Sx.once_len (Sx.allNamesL l) []
    have := Sx.namesL_size l
    rw [← hr]
    simp at *
    omega
  have hrc : r.length ≤ c' := by
    rcases ho.2 with ⟨h1, h0⟩ | ⟨g, cap, cur, h1, _, _, h2, _⟩
    · rw [hr] at h0; omega
    · rw [hr] at h1 h2; injection h1 with _ _ h1; omega
  have hri : (r.length : Int) ≤ (c' : Int) := by omega
  have hr0 : (0 : Int) ≤ (r.length : Int) := by omega
  rw [hr] at cL
  clear ho hbl hb3 hr
  go_wp2_with fail
  go_ret
  rw [HR.out]
  refine ⟨A', rfl, ?_, by rw [hL]; exact HB3.out⟩
  obtain ⟨A1, c1, h1, h2⟩ := HO.out.row
  rw [HR.out] at h1 h2
  injection h1 with h1 _ _
  subst h1
  exact ⟨A', r.length, rfl, h2⟩

end Go.Proofs.YtdncljdfmdgdaaaGreatDoor
