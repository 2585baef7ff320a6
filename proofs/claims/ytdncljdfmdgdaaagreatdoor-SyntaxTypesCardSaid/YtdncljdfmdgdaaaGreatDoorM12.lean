/-
  Plain laws: what a writer tells is the tokens with one blank between each two.
-/
/-
 Plain laws: what a writer tells is the tokens with one blank between each two.
 Package syntax's writer: what String, put, comma and told do to it.
 What package syntax's writer tells.
 The walks of a type's text: signature, typ.
 The walk of typ at the kinds without a loop.
-/
import Derived.Test.YtdncljdfmdgdaaaGreatDoorM10
import Derived.Test.YtdncljdfmdgdaaaGreatDoorM11
namespace Go.Proofs.YtdncljdfmdgdaaaGreatDoor.Sx
open Go.Proofs.YtdncljdfmdgdaaaGreatDoor.Lx (Bytes)
def textFrom : Nat → Bytes → List Bytes → Option Bytes
 | _, b, [] => some b
 | i, b, s :: l =>
  if 65536 < ((if 0 < i then b ++ [32] else b) ++ s).length then none
  else textFrom (i + 1) ((if 0 < i then b ++ [32] else b) ++ s) l
def text (l : List Bytes) : Bytes × Nat :=
 match textFrom 0 [] l with
 | none => ([], 2)
 | some b => if 4096 < l.length then ([], 3) else (b, 0)
theorem puts_cons (w : Wr) (s : Bytes) (l : List Bytes) : puts w (s :: l) = puts (put w s) l := rfl
theorem puts_n : ∀ (l : List Bytes) (w : Wr), (puts w l).n = w.n + l.length
 | [], w => rfl
 | s :: l, w => by rw [puts_cons, puts_n l]; simp [put]; omega
theorem zfrZ : ∀ (l : List Bytes) (w : Wr), 65536 < w.b.length → 65536 < (puts w l).b.length
 | [], w, h => h
 | s :: l, w, h => by
  rw [puts_cons]
  refine zfrZ l _ ?_
  unfold put
  rw [if_pos h]
  exact h
theorem zfsZ : ∀ (l : List Bytes) (b : Bytes) (i : Nat), (∀ s ∈ l, s ≠ []) → b.length ≤ 65536 → (0 < i ↔ 0 < b.length) →
  (textFrom i b l = none → 65536 < (puts ⟨b, i⟩ l).b.length) ∧ (∀ c, textFrom i b l = some c → (puts ⟨b, i⟩ l).b = c ∧ c.length ≤ 65536)
 | [], b, i, _, hb, _ => ⟨fun h => by simp [textFrom] at h, fun c h => by simp only [textFrom] at h; injection h with h; subst h; exact ⟨rfl, hb⟩⟩
 | s :: l, b, i, hs, hb, hi => by
  have hput : put ⟨b, i⟩ s = ⟨(if 0 < i then b ++ [32] else b) ++ s, i + 1⟩ := by
   unfold put
   rw [if_neg (by simp only; omega)]
   by_cases h : 0 < i
   ·rw [if_pos h, if_pos (hi.1 h)]
   ·rw [if_neg h, if_neg (fun h' => h (hi.2 h'))]
  rw [puts_cons, hput, textFrom]
  have hsn : s ≠ [] := hs s (List.mem_cons_self ..)
  have hsl : 0 < s.length := List.length_pos_iff.2 hsn
  by_cases hlong : 65536 < ((if 0 < i then b ++ [32] else b) ++ s).length
  ·rw [if_pos hlong]
   exact ⟨fun _ => zfrZ l _ hlong, fun c h => by cases h⟩
  ·rw [if_neg hlong]
   refine zfsZ l _ (i + 1) (fun x hx => hs x (List.mem_cons_of_mem _ hx)) (by omega) ⟨fun _ => ?_, fun _ => by omega⟩
   rw [List.length_append]
   omega
theorem told_text {l : List Bytes} (hs : ∀ s ∈ l, s ≠ []) : told true (puts ⟨[], 0⟩ l) = text l := by
 have h := zfsZ l [] 0 hs (by simp) (by simp)
 have hn := puts_n l ⟨[], 0⟩
 unfold told text
 simp only [Bool.not_true, Bool.false_eq_true, if_false]
 cases ht : textFrom 0 [] l with
 | none =>
  rw [if_pos (h.1 ht)]
 | some c =>
  obtain ⟨h1, h2⟩ := h.2 c ht
  rw [h1, hn]
  simp only
  rw [if_neg (by omega)]
  simp
end Go.Proofs.YtdncljdfmdgdaaaGreatDoor.Sx
namespace Go.Proofs.YtdncljdfmdgdaaaGreatDoor
open Go.RowKit Go.Shelf Go.WideMaps
set_option linter.unusedSimpArgs false
set_option linter.unusedVariables false
theorem cellsU8 : Tryz.prog.cellsOf 5 = 1 := by kernel_rfl
set_option maxHeartbeats 2000000 in
set_option maxRecDepth 100000 in
theorem zjfZ (B b : Nat) (x : Sx.Wr) (w : World) (h : Wri B b x w) :
  Calls Tryz.prog 95 #[.pointer (some ⟨b, 0, none⟩)] w fun e w' => e = .returned (.string ⟨x.b.toArray⟩) ∧ Below B w w' := by
 obtain ⟨hB, p, v, hb, hp, ho, hx⟩ := h
 by_cases h0 : x.b = []
 ·obtain rfl := hx h0
  rw [h0]
  have hUS : ∀ (W : World) (q : Option Addr), (Builtin.unsafeString_ #[174, 3] 9 #[.pointer q, .int .i64 0]).run Tryz.prog W = .ok (.string .empty) W := fun W q => Lib.run_unsafeString_none _ _ _ _ _
  have c1 : w.drew.cell? ⟨b, 1, none⟩ = some (.slice none 0 0) := cell_of (show w.drew.heap[b]? = _ from hb) 1
  have hSD : (Builtin.unsafeSliceData_ #[98] 174 #[.slice none 0 0]).run Tryz.prog w.drew = .ok (.pointer none) w.drew := rfl
  go_enter Tryz.func95, Tryz.ntmps95
  go_wp2
  go_region
  all_goals (go_wp2; go_ret; exact ⟨rfl, Below.drew (Below.refl B w)⟩)
 ·obtain ⟨l, hl⟩ : ∃ l, x.b = l := ⟨_, rfl⟩
  rw [hl] at ho h0 ⊢
  have hl0 : l.length ≠ 0 := by simpa using h0
  obtain ⟨g, cap, cur, rfl, hbg, hg, hnc, hcm, hcs, htake⟩ : ∃ g cap cur, v = .slice (some ⟨g, 0, none⟩) l.length cap ∧ B ≤ g ∧ w.heap[g]? = some (.cells cur 5 (0, 0)) ∧ l.length ≤ cap ∧ cap ≤ maxLen ∧ cur.size = cap * 1 ∧ cur.toList.take (l.length * 1) = bytesV l := by
   rcases ho.2 with ⟨_, hz⟩ | ⟨g, cap, cur, hv, r⟩
   ·exact absurd hz hl0
   ·exact ⟨g, cap, cur, hv, r⟩
  have c1 : w.drew.cell? ⟨b, 1, none⟩ = some (.slice (some ⟨g, 0, none⟩) l.length cap) := cell_of (show w.drew.heap[b]? = _ from hb) 1
  have hSD : (Builtin.unsafeSliceData_ #[98] 174 #[.slice (some ⟨g, 0, none⟩) l.length cap]).run Tryz.prog w.drew = .ok (.pointer (some ⟨g, 0, none⟩)) w.drew :=
   Lib.run_unsafeSliceData_row _ _ _ _ _ _ (by omega)
  have hUS : (Builtin.unsafeString_ #[174, 3] 9 #[.pointer (some ⟨g, 0, none⟩), .int .i64 l.length]).run Tryz.prog w.drew = .ok (.string ⟨l.toArray⟩) (w.drew.freeze ⟨g, 0, none⟩ l.length) := by
   refine Lib.run_unsafeString_row w.drew 174 3 9 5 Tryz.underlying174 cellsU8 g cur.size (by have hg' : w.drew.heap[g]? = some (.cells cur 5 (0, 0)) := hg; simp [World.shape?, hg']) l h0 (by omega) (by unfold maxLen at hcm; omega) ?_
   intro j y hy
   have := World.ownsRow.cells ho (g := g) rfl j (.int .u8 y.toNat) (by simp [bytesV, hy])
   exact this
  go_enter Tryz.func95, Tryz.ntmps95
  go_wp2
  go_region
  all_goals (go_wp2; go_ret; exact ⟨rfl, Lib.below_freeze (Below.drew (Below.refl B w)) (p := ⟨g, 0, none⟩) hbg _⟩)
theorem Wri.tick {B b : Nat} {x : Sx.Wr} {w : World} (h : Wri B b x w) : Wri B b ⟨x.b, x.n + 1⟩ (w.setCell ⟨b, 2, none⟩ (.int .i64 ((x.n : Int) + 1))) ∧ KeepW w (w.setCell ⟨b, 2, none⟩ (.int .i64 ((x.n : Int) + 1))) ∧ Below B w (w.setCell ⟨b, 2, none⟩ (.int .i64 ((x.n : Int) + 1))) := by
 obtain ⟨hB, p, v, hb, hp, ho, hx⟩ := h
 exact ⟨⟨hB, p, v, by simp [World.setCell, Array.getElem?_modify, hb], hp, zboZ ho hb _, hx⟩, KeepW.set hb 2 _, (Below.refl B w).setCell (p := ⟨b, 2, none⟩) hB _⟩
theorem Wri.cells {B b : Nat} {x : Sx.Wr} {w : World} (h : Wri B b x w) : w.cell? ⟨b, 2, none⟩ = some (.int .i64 (x.n : Nat)) ∧ w.frozen? ⟨b, 2, none⟩ = false ∧ b < w.heap.size ∧ B ≤ b := by
 obtain ⟨hB, p, v, hb, hp, ho, hx⟩ := h
 exact ⟨cell_of hb 2, free_of hb 2, zaZ hb, hB⟩
theorem Sx.put_len {x : Sx.Wr} {s : Lx.Bytes} (hx : x.b.length ≤ 1000065537) (hs : s.length ≤ 1000000000) : (Sx.put x s).b.length ≤ 1000065537 := by
 unfold Sx.put
 simp only
 split
 ·exact hx
 ·split <;> simp <;> omega
theorem Sx.puts_len : ∀ (l : List Lx.Bytes) (x : Sx.Wr), x.b.length ≤ 1000065537 → (∀ s ∈ l, s.length ≤ 1000000000) → (Sx.puts x l).b.length ≤ 1000065537
 | [], x, hx, _ => hx
 | s :: l, x, hx, hl => by
  rw [Sx.puts_cons]
  exact Sx.puts_len l _ (Sx.put_len hx (hl s (List.mem_cons_self ..))) (fun t ht => hl t (List.mem_cons_of_mem _ ht))
theorem Sx.puts_take {l : List Lx.Bytes} {m : Nat} (x : Sx.Wr) (h : m < l.length) : Sx.puts x (l.take (m + 1)) = Sx.put (Sx.puts x (l.take m)) l[m] := by
 rw [List.take_succ_eq_append_getElem h, Sx.puts_append]
 rfl
def Row (w : World) (g : Nat) (l : List Lx.Bytes) : Prop := w.heap[g]? = some (.cells (strsV l).toArray 9 (0, 0))
theorem Row.at {w : World} {g m : Nat} {l : List Lx.Bytes} (h : Row w g l) (hm : m < l.length) : w.cell? ⟨g, m, none⟩ = some (.string ⟨(l[m]'hm).toArray⟩) := by
 rw [cell_of h]
 simp [strsV, hm]
set_option maxHeartbeats 4000000 in
set_option maxRecDepth 100000 in
theorem synPut (B b g : Nat) (l : List Lx.Bytes) (x : Sx.Wr) (w : World) (h : Wri B b x w) (hl : Row w g l) (hs : ∀ s ∈ l, s ≠ [] ∧ s.length ≤ 1000000000) (hx : x.b.length ≤ 1000065537) (hn : x.n + l.length ≤ 1000000000) (hBw : B ≤ w.heap.size) :
  Calls Tryz.prog 100 #[.pointer (some ⟨b, 0, none⟩), .slice (some ⟨g, 0, none⟩) l.length l.length] w fun e w' => e = .returned (.tuple #[]) ∧ Wri B b (Sx.puts x l) w' ∧ Below B w w' ∧ KeepW w w' := by
 have H := Lib.hid h
 have HL := Lib.hid hl
 have HS := Lib.hid hs
 clear h hl hs
 go_enter Tryz.func100, Tryz.ntmps100
 go_wp2_with fail
 go_loopg [8] (l.length) (fun i v wr => ∃ (m : Nat), i = l.length - m ∧ v = .int .i64 (m : Int) ∧ m ≤ l.length ∧ Wri B b (Sx.puts x (l.take m)) wr ∧ Below B w wr ∧ KeepW w wr)
 case atStart => exact ⟨0, rfl, rfl, Nat.zero_le _, H.out, Below.refl _ _, KeepW.refl _⟩
 case round =>
  obtain ⟨m, hi, rfl, hm, hW, hb, hk⟩ := hrel
  have HI := Lib.hid hi
  have HB := Lib.hid hb
  have HK := Lib.hid hk
  have m0 : (0 : Int) ≤ (m : Int) := by omega
  by_cases hlt : m < l.length
  ·have hmi : (m : Int) < (l.length : Int) := by omega
   have hmx : (m : Int) ≤ 1000000000 := by omega
   obtain ⟨y, hy⟩ : ∃ y, Sx.puts x (l.take m) = y := ⟨_, rfl⟩
   have hyn : y.n = x.n + m := by rw [← hy, Sx.puts_n]; simp; omega
   have hyl : y.b.length ≤ 1000065537 := by rw [← hy]; exact Sx.puts_len _ _ hx (fun s hs => (HS.out s (List.mem_of_mem_take hs)).2)
   have hst := Sx.puts_take x hlt
   rw [hy] at hW hst
   have hr : Row wr g l := hk _ _ _ _ HL.out (by decide) (by decide)
   have hc := hr.at hlt
   have hgl := zaZ hr
   obtain ⟨s, hse⟩ : ∃ s, l[m]'hlt = s := ⟨_, rfl⟩
   rw [hse] at hc hst
   have hs2 := HS.out s (by rw [← hse]; exact List.getElem_mem hlt)
   have hsl := hs2.2
   have hs1 := hs2.1
   obtain ⟨c2, f2, hbl, hBb⟩ := hW.cells
   have hyi : (y.n : Int) ≤ 1000000000 := by omega
   have hyi0 : (0 : Int) ≤ (y.n : Int) := by omega
   have hbs := hb.size
   have HT := Lib.hid hW.tick
   have HST := Lib.hid hst
   have HY := Lib.hid hy
   have HYN := Lib.hid hyn
   have HSE := Lib.hid hse
   have HS1 := Lib.hid hs1
   obtain ⟨yb, hyb⟩ : ∃ yb, y.b.length = yb := ⟨_, rfl⟩
   have HYB := Lib.hid hyb
   have hybl : yb ≤ 1000065537 := by omega
   have hyb0 : (0 : Int) ≤ (yb : Int) := by omega
   have hsz1 : (wr.setCell ⟨b, 2, none⟩ (.int .i64 ((y.n : Int) + 1))).heap.size = wr.heap.size := by simp [World.setCell]
   have hlen : ∀ W, Wri B b ⟨y.b, y.n + 1⟩ W → Calls Tryz.prog 92 #[.pointer (some ⟨b, 0, none⟩)] W fun e w' => e = .returned (.int .i64 (yb : Nat)) ∧ w' = W := fun W hW => by
    have := wriLen B b _ W hW
    rwa [HYB.out] at this
   have HLEN := Lib.hid hlen
   clear hi hb hk hW hy hyn hst hr hse hs2 hs1 hlen hyb hyl
   by_cases hbig : 65536 < yb
   ·have hbi : (65536 : Int) < (yb : Int) := by omega
    have HBG := Lib.hid hbig
    clear hbig
    go_wp2_with (go_at_call 92; refine (HLEN.out _ HT.out.1).mono ?_; rintro e W3 ⟨rfl, rfl⟩)
    go_roundg (l.length - (m + 1))
    case measure => have := HI.out; omega
    case rel =>
     refine ⟨m + 1, rfl, by simp, hlt, ?_, HB.out.trans HT.out.2.2, HK.out.trans HT.out.2.1⟩
     rw [HST.out]
     unfold Sx.put
     rw [if_pos (by rw [HYB.out]; exact HBG.out)]
     exact HT.out.1
   ·have hbi : (yb : Int) ≤ (65536 : Int) := by omega
    have HBG := Lib.hid hbig
    clear hbig
    by_cases hz : yb = 0
    ·subst hz
     have hw : ∀ W, Wri B b ⟨y.b, y.n + 1⟩ W → wr.heap.size ≤ W.heap.size → Calls Tryz.prog 94 #[.pointer (some ⟨b, 0, none⟩), .string ⟨s.toArray⟩] W fun e w' => (∃ u, e = .returned u) ∧ Wri B b ⟨y.b ++ s, y.n + 1⟩ w' ∧ Below B W w' ∧ KeepW W w' := fun W hW hWs => wriStr B b ⟨y.b, y.n + 1⟩ s W hW HS1.out (by have := HYB.out; simp; omega) (by omega)
     have HW := Lib.hid hw
     clear hw
     go_wp2_with (first
      | (go_at_call 92; refine (HLEN.out _ HT.out.1).mono ?_; rintro e W3 ⟨rfl, rfl⟩)
      | (go_at_call 94; refine (HW.out _ HT.out.1 (by rw [hsz1]; exact Nat.le_refl _)).mono ?_; rintro e W3 ⟨⟨u, rfl⟩, hW3, hb3, hk3⟩))
     go_roundg (l.length - (m + 1))
     case measure => have := HI.out; omega
     case rel =>
      refine ⟨m + 1, rfl, by simp, hlt, ?_, (HB.out.trans HT.out.2.2).trans hb3, (HK.out.trans HT.out.2.1).trans hk3⟩
      rw [HST.out]
      unfold Sx.put
      rw [if_neg (by rw [HYB.out]; omega), if_neg (by rw [HYB.out]; omega)]
      exact hW3
    ·have hzi : (0 : Int) < (yb : Int) := by omega
     have HZ := Lib.hid hz
     clear hz
     have hw0 : ∀ W, Wri B b ⟨y.b, y.n + 1⟩ W → wr.heap.size ≤ W.heap.size → Calls Tryz.prog 93 #[.pointer (some ⟨b, 0, none⟩), .int .u8 32] W fun e w' => e = .returned .nilIface ∧ Wri B b ⟨y.b ++ [32], y.n + 1⟩ w' ∧ Below B W w' ∧ KeepW W w' := fun W hW hWs => wriByte B b ⟨y.b, y.n + 1⟩ 32 W hW (by have := HYB.out; simp; omega) (by omega)
     have hw : ∀ W, Wri B b ⟨y.b ++ [32], y.n + 1⟩ W → wr.heap.size ≤ W.heap.size → Calls Tryz.prog 94 #[.pointer (some ⟨b, 0, none⟩), .string ⟨s.toArray⟩] W fun e w' => (∃ u, e = .returned u) ∧ Wri B b ⟨y.b ++ [32] ++ s, y.n + 1⟩ w' ∧ Below B W w' ∧ KeepW W w' := fun W hW hWs => wriStr B b ⟨y.b ++ [32], y.n + 1⟩ s W hW HS1.out (by have := HYB.out; simp; omega) (by omega)
     have HW0 := Lib.hid hw0
     have HW := Lib.hid hw
     clear hw hw0
     go_wp2_with (first
      | (go_at_call 92; refine (HLEN.out _ HT.out.1).mono ?_; rintro e W3 ⟨rfl, rfl⟩)
      | (go_at_call 93; refine (HW0.out _ HT.out.1 (by rw [hsz1]; exact Nat.le_refl _)).mono ?_; rintro e W4 ⟨rfl, hW4, hb4, hk4⟩; have hs4 := hb4.size; rw [hsz1] at hs4; have HB4 := Lib.hid hb4; have HK4 := Lib.hid hk4; have HW4 := Lib.hid hW4; clear hW4 hb4 hk4)
      | (go_at_call 94; refine (HW.out W4 HW4.out hs4).mono ?_; rintro e W3 ⟨⟨u, rfl⟩, hW3, hb3, hk3⟩))
     go_roundg (l.length - (m + 1))
     case measure => have := HI.out; omega
     case rel =>
      refine ⟨m + 1, rfl, by simp, hlt, ?_, ((HB.out.trans HT.out.2.2).trans HB4.out).trans hb3, ((HK.out.trans HT.out.2.1).trans HK4.out).trans hk3⟩
      rw [HST.out]
      unfold Sx.put
      rw [if_neg (by rw [HYB.out]; omega), if_pos (by rw [HYB.out]; have := HZ.out; omega)]
      exact hW3
  ·have hmi : ¬ (m : Int) < (l.length : Int) := by omega
   rw [List.take_of_length_le (by omega)] at hW
   have HW := Lib.hid hW
   clear hW hi hb hk
   go_wp2_with fail
   go_end0
   exact ⟨rfl, HW.out, HB.out, HK.out⟩
end Go.Proofs.YtdncljdfmdgdaaaGreatDoor
namespace Go.Proofs.YtdncljdfmdgdaaaGreatDoor
open Go.RowKit Go.Shelf Go.WideMaps
set_option linter.unusedSimpArgs false
set_option linter.unusedVariables false
set_option maxHeartbeats 4000000 in
set_option maxRecDepth 100000 in
theorem synTold (B b : Nat) (x : Sx.Wr) (r : Bool) (w : World) (h : Wri B b x w) (hx : x.b.length ≤ 1000065537) (hn : x.n ≤ 1000000000) :
  Calls Tryz.prog 60 #[.pointer (some ⟨b, 0, none⟩), .bool r] w fun e w' =>
   e = .returned (.tuple #[.string ⟨(Sx.told r x).1.toArray⟩, .int .i64 ((Sx.told r x).2 : Nat)]) ∧ Below B w w' := by
 obtain ⟨c2, f2, hbl, hB⟩ := h.cells
 have hlen := wriLen B b x w h
 have hstr := zjfZ B b x w h
 obtain ⟨k, hk⟩ : ∃ k, x.b.length = k := ⟨_, rfl⟩
 obtain ⟨n, hnn⟩ : ∃ n, x.n = n := ⟨_, rfl⟩
 rw [hk] at hlen
 rw [hnn] at c2
 have hk0 : (0 : Int) ≤ (k : Int) := by omega
 have hn0 : (0 : Int) ≤ (n : Int) := by omega
 have hki : (k : Int) ≤ 1000065537 := by omega
 have hni : (n : Int) ≤ 1000000000 := by omega
 have HL := Lib.hid hlen
 have HS := Lib.hid hstr
 have HK := Lib.hid hk
 have HN := Lib.hid hnn
 clear hlen hstr hk hnn hx hn h
 cases r with
 | false =>
  go_enter Tryz.func60, Tryz.ntmps60
  go_wp2_with fail
  refine bodyPost_ret (results_tmp2 rfl _ _ _) rfl ?_
  exact ⟨rfl, Below.refl _ _⟩
 | true =>
  by_cases hbig : 65536 < k
  ·have hbi : (65536 : Int) < (k : Int) := by omega
   have ht : Sx.told true x = ([], 2) := by unfold Sx.told; rw [HK.out, if_pos hbig]; rfl
   rw [ht]
   clear ht
   go_enter Tryz.func60, Tryz.ntmps60
   go_wp2_with (go_at_call 92; refine HL.out.mono ?_; rintro e W3 ⟨rfl, rfl⟩)
   refine bodyPost_ret (results_tmp2 rfl _ _ _) rfl ?_
   exact ⟨rfl, Below.refl _ _⟩
  ·have hbi : (k : Int) ≤ (65536 : Int) := by omega
   by_cases hmany : 4096 < n
   ·have hmi : (4096 : Int) < (n : Int) := by omega
    have ht : Sx.told true x = ([], 3) := by unfold Sx.told; rw [HK.out, HN.out, if_neg hbig, if_pos hmany]; rfl
    rw [ht]
    clear ht
    go_enter Tryz.func60, Tryz.ntmps60
    go_wp2_with (go_at_call 92; refine HL.out.mono ?_; rintro e W3 ⟨rfl, rfl⟩)
    refine bodyPost_ret (results_tmp2 rfl _ _ _) rfl ?_
    exact ⟨rfl, Below.refl _ _⟩
   ·have hmi : (n : Int) ≤ (4096 : Int) := by omega
    have ht : Sx.told true x = (x.b, 0) := by unfold Sx.told; rw [HK.out, HN.out, if_neg hbig, if_neg hmany]; rfl
    rw [ht]
    clear ht
    go_enter Tryz.func60, Tryz.ntmps60
    go_wp2_with (first
     | (go_at_call 92; refine HL.out.mono ?_; rintro e W3 ⟨rfl, rfl⟩)
     | (go_at_call 95; refine HS.out.mono ?_; rintro e W3 ⟨rfl, hb3⟩))
    refine bodyPost_ret (results_tmp2 rfl _ _ _) rfl ?_
    exact ⟨rfl, hb3⟩
theorem Row.new (w : World) (l : List Lx.Bytes) : Row (w.alloc (.cells (strsV l).toArray 9)) w.heap.size l := heap_alloc_new w _
theorem Wri.grown {B b : Nat} {x : Sx.Wr} {w w' : World} (h : Wri B b x w) (hg : w.grownBy w' none) : Wri B b x w' := by
 obtain ⟨hB, p, v, hb, hp, ho, hx⟩ := h
 exact ⟨hB, p, v, (hg.block b (zaZ hb) (fun e => nomatch e)).trans hb, hp, World.ownsRow.kept ho hg (by cases v.ownBlock <;> simp), hx⟩
structure Wrote (W0 : World) (b c : Nat) (l : List Lx.Bytes) (w : World) : Prop where
 wri : Wri W0.heap.size b (Sx.puts ⟨[], 0⟩ l) w
 below : Below W0.heap.size W0 w
 good : ∀ s ∈ l, s.length ≤ 1000000000
 cnt : l.length ≤ c
theorem Wrote.grown {W0 w w' : World} {b c : Nat} {l : List Lx.Bytes} (h : Wrote W0 b c l w) (hg : w.grownBy w' none) : Wrote W0 b c l w' :=
 ⟨h.wri.grown hg, h.below.grown hg h.below.size (fun j e => nomatch e), h.good, h.cnt⟩
theorem Wrote.lt {W0 w : World} {b c : Nat} {l : List Lx.Bytes} (h : Wrote W0 b c l w) : b < w.heap.size := h.wri.cells.2.2.1
theorem Wrote.mono {W0 w : World} {b c d : Nat} {l : List Lx.Bytes} (h : Wrote W0 b c l w) (hd : c ≤ d) : Wrote W0 b d l w := ⟨h.wri, h.below, h.good, Nat.le_trans h.cnt hd⟩
theorem Wrote.cast {W0 w : World} {b c : Nat} {l m : List Lx.Bytes} (h : Wrote W0 b c l w) (e : l = m) : Wrote W0 b c m w := e ▸ h
theorem KeepW.alloc (w : World) (o : Obj) : KeepW w (w.alloc o) := KeepW.grown (World.grownBy_alloc w o none) (fun j e => nomatch e)
theorem putRow {W0 w : World} {b c : Nat} {l m : List Lx.Bytes} (h : Wrote W0 b c l w) (hs : ∀ s ∈ m, s ≠ [] ∧ s.length ≤ 1000000000) (hn : c + m.length ≤ 1000000000) :
  Calls Tryz.prog 100 #[.pointer (some ⟨b, 0, none⟩), .slice (some ⟨w.heap.size, 0, none⟩) m.length m.length] (w.alloc (.cells (strsV m).toArray 9)) fun e w' =>
   e = .returned (.tuple #[]) ∧ Wrote W0 b (c + m.length) (l ++ m) w' ∧ KeepW w w' := by
 have hg : w.grownBy (w.alloc (.cells (strsV m).toArray 9)) none := World.grownBy_alloc w _ none
 have hc := h.cnt
 refine (synPut W0.heap.size b w.heap.size m (Sx.puts ⟨[], 0⟩ l) _ (h.wri.grown hg) (Row.new w m) hs (Sx.puts_len l _ (by simp) h.good) (by rw [Sx.puts_n]; simp; omega) (Nat.le_trans h.below.size hg.size)).mono ?_
 rintro e w' ⟨he, h1, h2, h3⟩
 refine ⟨he, ⟨?_, (h.below.grown hg h.below.size (fun j e => nomatch e)).trans h2, ?_, ?_⟩, (KeepW.grown hg (fun j e => nomatch e)).trans h3⟩
 ·rw [Sx.puts_append]; exact h1
 ·intro s hm
  rcases List.mem_append.1 hm with h' | h'
  ·exact h.good s h'
  ·exact (hs s h').2
 ·rw [List.length_append]; omega
theorem put1 {W0 w : World} {b c : Nat} {l : List Lx.Bytes} {s : Lx.Bytes} (h : Wrote W0 b c l w) (hs : s ≠ [] ∧ s.length ≤ 1000000000) (hn : c + 1 ≤ 1000000000) :
  Calls Tryz.prog 100 #[.pointer (some ⟨b, 0, none⟩), .slice (some ⟨w.heap.size, 0, none⟩) 1 1] (w.alloc (.cells #[.string ⟨s.toArray⟩] 9)) fun e w' =>
   e = .returned (.tuple #[]) ∧ Wrote W0 b (c + 1) (l ++ [s]) w' ∧ KeepW w w' :=
 putRow (m := [s]) h (by simpa using hs) hn
theorem put2 {W0 w : World} {b c : Nat} {l : List Lx.Bytes} {s t : Lx.Bytes} (h : Wrote W0 b c l w) (hs : s ≠ [] ∧ s.length ≤ 1000000000) (ht : t ≠ [] ∧ t.length ≤ 1000000000) (hn : c + 2 ≤ 1000000000) :
  Calls Tryz.prog 100 #[.pointer (some ⟨b, 0, none⟩), .slice (some ⟨w.heap.size, 0, none⟩) 2 2] (w.alloc (.cells #[.string ⟨s.toArray⟩, .string ⟨t.toArray⟩] 9)) fun e w' =>
   e = .returned (.tuple #[]) ∧ Wrote W0 b (c + 2) (l ++ [s, t]) w' ∧ KeepW w w' :=
 putRow (m := [s, t]) h (by simpa using ⟨hs, ht⟩) hn
set_option maxRecDepth 100000 in
set_option maxHeartbeats 1000000 in
theorem zctZ {W0 w : World} {b c : Nat} {l : List Lx.Bytes} (i : Nat) (h : Wrote W0 b c l w) (hi : i ≤ 1000000000) (hn : c + 1 ≤ 1000000000) :
  Calls Tryz.prog 131 #[.pointer (some ⟨b, 0, none⟩), .int .i64 (i : Nat)] w fun e w' =>
   e = .returned (.tuple #[]) ∧ Wrote W0 b (c + 1) (l ++ (if 0 < i then [[44]] else [])) w' ∧ KeepW w w' := by
 have H := Lib.hid h
 clear h
 have hbl := H.out.lt
 by_cases h0 : i = 0
 ·subst h0
  go_enter Tryz.func131, Tryz.ntmps131
  go_wp2_with fail
  go_end0
  exact ⟨rfl, by simpa using H.out.mono (Nat.le_succ _), KeepW.refl _⟩
 ·have hi0 : (0 : Int) < (i : Int) := by omega
  rw [if_pos (by omega)]
  go_enter Tryz.func131, Tryz.ntmps131
  go_wp2_with (go_at_call 100; refine (put1 (s := [44]) H.out ⟨by simp, by simp⟩ hn).mono ?_; rintro e w' ⟨rfl, h1, h2⟩)
  go_end0
  exact ⟨rfl, h1, h2⟩
end Go.Proofs.YtdncljdfmdgdaaaGreatDoor
namespace Go.Proofs.YtdncljdfmdgdaaaGreatDoor
open Go.RowKit Go.Shelf Go.WideMaps
set_option linter.unusedSimpArgs false
set_option linter.unusedVariables false
def Cells5 (W : World) (g j : Nat) (kd : Int) (nm : Lx.Bytes) (vn ve vp : Value) : Prop :=
 g < W.heap.size ∧ W.cell? ⟨g, j, none⟩ = some (.int .i64 kd) ∧ W.cell? ⟨g, j + 1, none⟩ = some (.string ⟨nm.toArray⟩) ∧ W.cell? ⟨g, j + 2, none⟩ = some vn ∧ W.cell? ⟨g, j + 3, none⟩ = some ve ∧ W.cell? ⟨g, j + 4, none⟩ = some vp
theorem TyRow.spot {W0 : World} {Ap : Option Addr} {k cp : Nat} {l : List Sx.Ty} (h : TyRow W0 (.slice Ap k cp) l) (m : Nat) (hm : m < l.length) :
  ∃ g off An cn Ae ce Aq cq, Ap = some ⟨g, off, none⟩ ∧
   IsTy W0 (.agg #[.int .i64 (l[m]'hm).kind, .string ⟨(l[m]'hm).name.toArray⟩, .slice An (l[m]'hm).names.length cn, .slice Ae (l[m]'hm).embeds.length ce, .slice Aq (l[m]'hm).parts.length cq]) (l[m]'hm) ∧
   ∀ W, Below W0.heap.size W0 W → Cells5 W g (off + m * 5) (l[m]'hm).kind (l[m]'hm).name (.slice An (l[m]'hm).names.length cn) (.slice Ae (l[m]'hm).embeds.length ce) (.slice Aq (l[m]'hm).parts.length cq) := by
 obtain ⟨A, c, hv, -, hl⟩ := h
 injection hv with h1 _ _
 subst h1
 obtain ⟨g, off, v0, v1, v2, v3, v4, rfl, c0, c1, c2, c3, c4, ht⟩ := IsTys.at hl m hm
 obtain ⟨vn, ve, vp, hagg, hsn, hse, hsp⟩ := ht.limbs
 obtain ⟨An, cn, hvn, -⟩ := id hsn
 obtain ⟨Ae, ce, hve, -⟩ := id hse
 obtain ⟨Aq, cq, hvp, -, -⟩ := id hsp
 subst hvn hve hvp
 injection hagg with hagg
 simp only [Array.mk.injEq, List.cons.injEq, and_true] at hagg
 obtain ⟨rfl, rfl, rfl, rfl, rfl⟩ := hagg
 rw [Nat.zero_add] at c0 c1 c2 c3 c4
 have hg := World.block_lt_of_cell? W0 ⟨g, _, none⟩ c0
 refine ⟨g, off, An, cn, Ae, ce, Aq, cq, rfl, ht, fun W hb => ?_⟩
 have up : ∀ {j : Nat} {u : Value}, W0.cell? ⟨g, j, none⟩ = some u → W.cell? ⟨g, j, none⟩ = some u := fun {j u} hj => (World.cell?_of_block (hb.block g hg)).trans hj
 exact ⟨Nat.lt_of_lt_of_le hg hb.size, up c0, up c1, up c2, up c3, up c4⟩
theorem StrRow.cellAt {W0 W : World} {A : Option Addr} {k c : Nat} {l : List Lx.Bytes} (h : StrRow W0 (.slice A k c) l) (hb : Below W0.heap.size W0 W) (m : Nat) (hm : m < l.length) :
  ∃ g off, A = some ⟨g, off, none⟩ ∧ g < W.heap.size ∧ W.cell? ⟨g, off + m, none⟩ = some (.string ⟨(l[m]'hm).toArray⟩) := by
 obtain ⟨A', c', hv, hl⟩ := h
 injection hv with h1 _ _
 subst h1
 obtain ⟨g, off, rfl, hc⟩ := hl m hm
 have hg := World.block_lt_of_cell? W0 ⟨g, _, none⟩ hc
 exact ⟨g, off, rfl, Nat.lt_of_lt_of_le hg hb.size, (World.cell?_of_block (hb.block g hg)).trans hc⟩
theorem BoolRow.cellAt {W0 W : World} {A : Option Addr} {k c : Nat} {l : List Bool} (h : BoolRow W0 (.slice A k c) l) (hb : Below W0.heap.size W0 W) (m : Nat) (hm : m < l.length) :
  ∃ g off, A = some ⟨g, off, none⟩ ∧ g < W.heap.size ∧ W.cell? ⟨g, off + m, none⟩ = some (.bool (l[m]'hm)) := by
 obtain ⟨A', c', hv, hl⟩ := h
 injection hv with h1 _ _
 subst h1
 obtain ⟨g, off, rfl, hc⟩ := hl m hm
 have hg := World.block_lt_of_cell? W0 ⟨g, _, none⟩ hc
 exact ⟨g, off, rfl, Nat.lt_of_lt_of_le hg hb.size, (World.cell?_of_block (hb.block g hg)).trans hc⟩
theorem IsTy.agg {W : World} {v : Value} {t : Sx.Ty} (h : IsTy W v t) : ∃ An cn Ae ce Ap cp, v = .agg #[.int .i64 t.kind, .string ⟨t.name.toArray⟩, .slice An t.names.length cn, .slice Ae t.embeds.length ce, .slice Ap t.parts.length cp] ∧
  StrRow W (.slice An t.names.length cn) t.names ∧ BoolRow W (.slice Ae t.embeds.length ce) t.embeds ∧ TyRow W (.slice Ap t.parts.length cp) t.parts := by
 obtain ⟨vn, ve, vp, hagg, hsn, hse, hsp⟩ := h.limbs
 obtain ⟨An, cn, hvn, -⟩ := id hsn
 obtain ⟨Ae, ce, hve, -⟩ := id hse
 obtain ⟨Ap, cp, hvp, -, -⟩ := id hsp
 subst hvn hve hvp
 exact ⟨An, cn, Ae, ce, Ap, cp, hagg, hsn, hse, hsp⟩
/-! ### the tokens up to a part -/
def Sx.parL : Nat → List Sx.Ty → List Lx.Bytes
 | _, [] => []
 | i, t :: l => (if 0 < i then [[44]] else []) ++ Sx.typ t ++ Sx.parL (i + 1) l
theorem Sx.parL_append : ∀ (l m : List Sx.Ty) (i : Nat), Sx.parL i (l ++ m) = Sx.parL i l ++ Sx.parL (i + l.length) m
 | [], m, i => by simp [Sx.parL]
 | t :: l, m, i => by
  rw [List.cons_append, Sx.parL, Sx.parL, Sx.parL_append l m (i + 1)]
  rw [List.length_cons, show i + 1 + l.length = i + (l.length + 1) by omega]
  simp [List.append_assoc]
theorem Sx.params_eq : ∀ (l : List Sx.Ty) (t : Sx.Ty) (i : Nat), Sx.params i (l ++ [t]) = Sx.parL i l ++ [[41]] ++ Sx.typ t
 | [], t, i => by simp [Sx.params, Sx.parL]
 | u :: l, t, i => by
  rw [List.cons_append, Sx.params, Sx.parL, Sx.params_eq l t (i + 1)]
  rw [if_neg (by simp)]
  simp [List.append_assoc]
theorem Sx.parL_take {l : List Sx.Ty} {m : Nat} (h : m < l.length) : Sx.parL 0 (l.take (m + 1)) = Sx.parL 0 (l.take m) ++ (if 0 < m then [[44]] else []) ++ Sx.typ l[m] := by
 rw [List.take_succ_eq_append_getElem h, Sx.parL_append, Nat.zero_add, List.length_take, Nat.min_eq_left (by omega)]
 simp [Sx.parL, List.append_assoc]
theorem Sx.sig_eq (t : Sx.Ty) : Sx.signature t = [[40]] ++ Sx.params 0 t.parts := by cases t; rw [Sx.signature]; rfl
def TypOk (N : Sx.Names) (W0 : World) (b : Nat) (t : Sx.Ty) : Prop := ∀ (d : Nat) (v : Value) (c : Nat) (l : List Lx.Bytes) (w : World), Sx.rightT N d t = true → IsTy W0 v t → Wrote W0 b c l w → c + 10 * Sx.size t ≤ 1000000000 →
 Calls Tryz.prog 59 #[.pointer (some ⟨b, 0, none⟩), v] w fun e w' => e = .returned (.tuple #[]) ∧ Wrote W0 b (c + (10 * Sx.size t - 6)) (l ++ Sx.typ t) w' ∧ KeepW w w'
def SigOk (N : Sx.Names) (W0 : World) (b : Nat) (t : Sx.Ty) : Prop := ∀ (d : Nat) (v : Value) (c : Nat) (l : List Lx.Bytes) (w : World), (∀ p ∈ t.parts, Sx.rightT N d p = true) → t.parts ≠ [] → IsTy W0 v t → Wrote W0 b c l w → c + 10 * Sx.size t ≤ 1000000001 →
 Calls Tryz.prog 109 #[.pointer (some ⟨b, 0, none⟩), v] w fun e w' => e = .returned (.tuple #[]) ∧ Wrote W0 b (c + (10 * Sx.size t - 7)) (l ++ Sx.signature t) w' ∧ KeepW w w'
set_option maxRecDepth 100000 in
set_option maxHeartbeats 8000000 in
theorem synSig (N : Sx.Names) (W0 : World) (b : Nat) (t : Sx.Ty) (ih : ∀ p ∈ t.parts, TypOk N W0 b p) : SigOk N W0 b t := by
 intro d v c l w hr hne ht h hc
 obtain ⟨An, cn, Ae, ce, Ap, cp, rfl, -, -, hp⟩ := ht.agg
 obtain ⟨k, hk⟩ : ∃ k, t.parts.length = k + 1 := ⟨t.parts.length - 1, by have := List.length_pos_iff.2 hne; omega⟩
 have hsz := Sx.size_parts t
 have hlen := Sx.length_size t.parts
 have hs1 : c + 9 ≤ 1000000000 := by omega
 have hki : (k : Int) ≤ 1000000000 := by omega
 have hk0 : (0 : Int) ≤ (k : Int) := by omega
 rw [hk] at hp ⊢
 have hcp : (k : Int) ≤ (cp : Int) := by
  obtain ⟨A', c', e1, e2, -⟩ := hp
  injection e1 with _ _ e1
  omega
 have HP := Lib.hid hp
 have HK := Lib.hid hk
 have HR := Lib.hid hr
 have HSZ := Lib.hid hsz
 have HIH := Lib.hid ih
 obtain ⟨L, hL⟩ : ∃ L, w.heap.size = L := ⟨_, rfl⟩
 obtain ⟨w2, hw2⟩ : ∃ w2, w.alloc (.cells #[.int .i64 t.kind, .string ⟨t.name.toArray⟩, .slice An t.names.length cn, .slice Ae t.embeds.length ce, .slice Ap (k + 1) cp] 26) = w2 := ⟨_, rfl⟩
 have hbox : w2.heap[L]? = some (.cells #[.int .i64 t.kind, .string ⟨t.name.toArray⟩, .slice An t.names.length cn, .slice Ae t.embeds.length ce, .slice Ap (k + 1) cp] 26 (0, 0)) := by rw [← hw2, ← hL]; exact heap_alloc_new w _
 have hW2 : Wrote W0 b c l w2 := by rw [← hw2]; exact h.grown (World.grownBy_alloc w _ none)
 have HKW := Lib.hid (show KeepW w w2 by rw [← hw2]; exact KeepW.alloc w _)
 have HBX := Lib.hid hbox
 have HW2 := Lib.hid hW2
 obtain ⟨x0, x1, x2, x3, x4⟩ := zcZ hbox
 have hl2 := zaZ hbox
 have hbl := hW2.lt
 clear hr hne ht hp hk hsz hlen ih hW2 hbox h
 go_enter Tryz.func109, Tryz.ntmps109
 go_wp2_with (go_at_call 100; refine (put1 (s := [40]) HW2.out ⟨by simp, by simp⟩ (by omega)).mono ?_; rintro e w3 ⟨rfl, hW3, hk3⟩; have hbox3 := hk3 _ _ _ _ HBX.out (by decide) (by decide); have HKW3 := Lib.hid (HKW.out.trans hk3); have HW3 := Lib.hid hW3; clear x0 x1 x2 x3 x4 hk3 hW3; obtain ⟨x0, x1, x2, x3, x4⟩ := zcZ hbox3; have hl3 := zaZ hbox3; have HBX3 := Lib.hid hbox3; clear hbox3; have hbl3 := HW3.out.lt)
 have H3 := Lib.hid (show Wrote W0 b (c + 1 + 10 * Sx.sizeL (t.parts.take 0)) (l ++ [[40]] ++ Sx.parL 0 (t.parts.take 0)) w3 from (HW3.out.mono (by omega)).cast (by simp [Sx.parL]))
 clear x0 x1 x2 x3 x4
 go_loopg [21] k (fun i v wr => ∃ (m : Nat), i = k - m ∧ v = .int .i64 (m : Int) ∧ m ≤ k ∧ Wrote W0 b (c + 1 + 10 * Sx.sizeL (t.parts.take m)) (l ++ [[40]] ++ Sx.parL 0 (t.parts.take m)) wr ∧ KeepW w3 wr)
 case atStart => exact ⟨0, rfl, rfl, Nat.zero_le _, H3.out, KeepW.refl _⟩
 case round =>
  obtain ⟨m, hi, rfl, hm, hW, hkw⟩ := hrel
  have HI := Lib.hid hi
  have HWR := Lib.hid hW
  have m0 : (0 : Int) ≤ (m : Int) := by omega
  have hboxr := hkw _ _ _ _ HBX3.out (by decide) (by decide)
  have HKR := Lib.hid (HKW3.out.trans hkw)
  have HK3 := Lib.hid hkw
  have HBR := Lib.hid hboxr
  have hblr := hW.lt
  have hlr := zaZ hboxr
  have hSL := Sx.sizeL_take_le t.parts (m + 1)
  have hSZ : 1 + Sx.sizeL t.parts ≤ Sx.size t := by have := HSZ.out; omega
  clear hi hW hkw H3 HW3 HBX3
  by_cases hlt : m < k
  ·have hmi : (m : Int) < (k : Int) := by omega
   have hmp : m < t.parts.length := by have := HK.out; omega
   obtain ⟨g, off, An1, cn1, Ae1, ce1, Aq, cq, rfl, hty, hc5⟩ := HP.out.spot m hmp
   obtain ⟨hg, c0, c1, c2, c3, c4⟩ := hc5 wr HWR.out.below
   clear hc5
   have hst := Sx.size_take hmp
   have hpt := Sx.parL_take hmp
   obtain ⟨p, hpe⟩ : ∃ p, t.parts[m]'hmp = p := ⟨_, rfl⟩
   have hmem : p ∈ t.parts := by rw [← hpe]; exact List.getElem_mem hmp
   rw [hpe] at c0 c1 c2 c3 c4 hty hst hpt
   have hps := Sx.size_pos p
   have HTY := Lib.hid hty
   have HPT := Lib.hid hpt
   have HMEM := Lib.hid hmem
   obtain ⟨sp, hsp⟩ : ∃ sp, Sx.size p = sp := ⟨_, rfl⟩
   obtain ⟨sm, hsm⟩ : ∃ sm, Sx.sizeL (t.parts.take m) = sm := ⟨_, rfl⟩
   rw [hsp, hsm] at hst
   rw [hst] at hSL
   rw [hsp] at hps
   have HSP := Lib.hid hsp
   have HSM := Lib.hid hsm
   have HST := Lib.hid hst
   have hbud : c + 2 + 10 * (sm + sp) ≤ 1000000000 := by omega
   obtain ⟨L4, hL4⟩ : ∃ L, wr.heap.size = L := ⟨_, rfl⟩
   obtain ⟨w4, hw4⟩ : ∃ w4, wr.alloc (.cells #[.int .i64 p.kind, .string ⟨p.name.toArray⟩, .slice An1 p.names.length cn1, .slice Ae1 p.embeds.length ce1, .slice Aq p.parts.length cq] 26) = w4 := ⟨_, rfl⟩
   have hbox4 : w4.heap[L4]? = some (.cells #[.int .i64 p.kind, .string ⟨p.name.toArray⟩, .slice An1 p.names.length cn1, .slice Ae1 p.embeds.length ce1, .slice Aq p.parts.length cq] 26 (0, 0)) := by rw [← hw4, ← hL4]; exact heap_alloc_new wr _
   have HBX4 := Lib.hid hbox4
   have HW4 := Lib.hid (show Wrote W0 b (c + 1 + 10 * sm) (l ++ [[40]] ++ Sx.parL 0 (t.parts.take m)) w4 by rw [← hw4, ← HSM.out]; exact HWR.out.grown (World.grownBy_alloc wr _ none))
   have HK4 := Lib.hid (show KeepW wr w4 by rw [← hw4]; exact KeepW.alloc wr _)
   have hl4 : L4 < w4.heap.size := zaZ hbox4
   clear hty hpt hmem hpe hsp hsm hst hbox4
   go_wp2_with (first
    | (go_at_call 131; refine (zctZ m HW4.out (by omega) (by omega)).mono ?_; rintro e w5 ⟨rfl, hW5, hk5⟩; have hbox5 := hk5 _ _ _ _ HBX4.out (by decide) (by decide); obtain ⟨y0, y1, y2, y3, y4⟩ := zcZ hbox5; have hl5 := zaZ hbox5; have HW5 := Lib.hid hW5; have HK5 := Lib.hid hk5; clear hbox5 hW5 hk5)
    | (go_at_call 59; refine (HIH.out p HMEM.out d _ _ _ w5 (HR.out p HMEM.out) HTY.out HW5.out (by rw [HSP.out]; omega)).mono ?_; rintro e w6 ⟨rfl, hW6, hk6⟩))
   go_roundg (k - (m + 1))
   case measure => have := HI.out; omega
   case rel =>
    refine ⟨m + 1, rfl, by simp, hlt, (hW6.mono ?_).cast ?_, ((HK3.out.trans HK4.out).trans HK5.out).trans hk6⟩
    ·rw [HST.out, HSP.out]; omega
    ·rw [HPT.out]; simp [List.append_assoc]
  ·have hmi : ¬ (m : Int) < (k : Int) := by omega
   obtain rfl : m = k := by omega
   have hmp : m < t.parts.length := by have := HK.out; omega
   obtain ⟨g, off, An1, cn1, Ae1, ce1, Aq, cq, rfl, hty, hc5⟩ := HP.out.spot m hmp
   have hst := Sx.size_take hmp
   have hsg : Sx.signature t = [[40]] ++ Sx.parL 0 (t.parts.take m) ++ [[41]] ++ Sx.typ (t.parts[m]'hmp) := by
    rw [Sx.sig_eq]
    conv => lhs; rw [show t.parts = t.parts.take m ++ [t.parts[m]'hmp] by rw [← List.take_succ_eq_append_getElem hmp, List.take_of_length_le (by have := HK.out; omega)]]
    rw [Sx.params_eq]
    simp [List.append_assoc]
   obtain ⟨p, hpe⟩ : ∃ p, t.parts[m]'hmp = p := ⟨_, rfl⟩
   have hmem : p ∈ t.parts := by rw [← hpe]; exact List.getElem_mem hmp
   rw [hpe] at hc5 hty hst hsg
   have HC5 := Lib.hid hc5
   have hps := Sx.size_pos p
   have HTY := Lib.hid hty
   have HSG := Lib.hid hsg
   have HMEM := Lib.hid hmem
   obtain ⟨sp, hsp⟩ : ∃ sp, Sx.size p = sp := ⟨_, rfl⟩
   obtain ⟨sm, hsm⟩ : ∃ sm, Sx.sizeL (t.parts.take m) = sm := ⟨_, rfl⟩
   rw [hsp, hsm] at hst
   rw [hst] at hSL
   rw [hsp] at hps
   have HSP := Lib.hid hsp
   have HWS := Lib.hid (show Wrote W0 b (c + 1 + 10 * sm) (l ++ [[40]] ++ Sx.parL 0 (t.parts.take m)) wr by rw [← hsm]; exact HWR.out)
   have hbud : c + 2 + 10 * (sm + sp) ≤ 1000000000 := by omega
   obtain ⟨x0, x1, x2, x3, x4⟩ := zcZ HBR.out
   clear hc5 hty hsg hmem hpe hsp hsm hst
   go_wp2_with (first
    | (go_at_call 100; refine (put1 (s := [41]) HWS.out ⟨by simp, by simp⟩ (by omega)).mono ?_; rintro e w5 ⟨rfl, hW5, hk5⟩; have hbox5 := hk5 _ _ _ _ HBR.out (by decide) (by decide); clear x0 x1 x2 x3 x4; obtain ⟨y0, y1, y2, y3, y4⟩ := zcZ hbox5; have hl5 := zaZ hbox5; have HW5 := Lib.hid hW5; have HK5 := Lib.hid hk5; clear hbox5 hW5 hk5; obtain ⟨hg5, d0, d1, d2, d3, d4⟩ := HC5.out w5 HW5.out.below)
    | (go_at_call 59; refine (HIH.out p HMEM.out d _ _ _ w5 (HR.out p HMEM.out) HTY.out HW5.out (by rw [HSP.out]; omega)).mono ?_; rintro e w6 ⟨rfl, hW6, hk6⟩))
   go_end0
   refine ⟨rfl, (hW6.mono ?_).cast ?_, (HKR.out.trans HK5.out).trans hk6⟩
   ·rw [HSP.out]; omega
   ·rw [HSG.out]; simp [List.append_assoc]
end Go.Proofs.YtdncljdfmdgdaaaGreatDoor
namespace Go.Proofs.YtdncljdfmdgdaaaGreatDoor
open Go.RowKit Go.Shelf Go.WideMaps
set_option linter.unusedSimpArgs false
set_option linter.unusedVariables false
theorem Sx.rights_mem {N : Sx.Names} {d : Nat} : ∀ {l : List Sx.Ty}, Sx.rightTs N d l = true → ∀ p ∈ l, Sx.rightT N d p = true
 | [], _, p, h => by cases h
 | t :: l, hr, p, h => by
  rw [Sx.rightTs, Bool.and_eq_true] at hr
  rcases List.mem_cons.1 h with rfl | h
  ·exact hr.1
  ·exact Sx.rights_mem hr.2 p h
theorem Sx.right_parts {N : Sx.Names} {d : Nat} {t : Sx.Ty} (h : Sx.rightT N d t = true) : ∃ e, d = e + 1 ∧ (∀ p ∈ t.parts, Sx.rightT N e p = true) ∧ Sx.shape N t.kind t.name t.names t.embeds t.parts = true := by
 cases t with
 | mk k n ns es ps =>
  cases d with
  | zero => simp [Sx.rightT] at h
  | succ e =>
   rw [Sx.rightT, Bool.and_eq_true] at h
   exact ⟨e, rfl, Sx.rights_mem h.1, h.2⟩
structure Sx.NamesOk (N : Sx.Names) : Prop where
 small : ∀ s, N.small s = true → s ≠ []
 great : ∀ s, N.great s = true → s ≠ []
theorem Sx.apart_small {N : Sx.Names} : ∀ {l : List Lx.Bytes}, Sx.apart N l = true → ∀ s ∈ l, N.small s = true
 | [], _, s, h => by cases h
 | x :: l, hr, s, h => by
  rw [Sx.apart, Bool.and_eq_true, Bool.and_eq_true] at hr
  rcases List.mem_cons.1 h with rfl | h
  ·exact hr.1
  ·exact Sx.apart_small hr.2.2 s h
theorem Sx.typ_eq (t : Sx.Ty) : Sx.typ t = (if t.kind = 1 then [[105, 110, 116]]
  else if t.kind = 2 then [[98, 111, 111, 108]]
  else if t.kind = 3 then [[116, 101, 120, 116]]
  else if t.kind = 4 then [t.name]
  else if t.kind = 5 then [42] :: Sx.typL t.parts
  else if t.kind = 6 then [[123]] ++ Sx.fields t.names t.embeds t.parts ++ [[125]]
  else if t.kind = 7 then [[102, 110]] ++ ([[40]] ++ Sx.params 0 t.parts)
  else if t.kind = 8 then [[105, 110, 116, 101, 114, 102, 97, 99, 101], [123]] ++ Sx.methods t.names t.parts ++ [[125]]
  else []) := by cases t; rw [Sx.typ]; rfl
theorem Sx.typL_head : ∀ {l : List Sx.Ty} (h : 0 < l.length), Sx.typL l = Sx.typ (l[0]'h)
 | t :: l, h => by rw [Sx.typL]; rfl
theorem Wrote.drew {W0 w : World} {b c : Nat} {l : List Lx.Bytes} (h : Wrote W0 b c l w) : Wrote W0 b c l w.drew := h.grown ⟨rfl, rfl, rfl, Nat.le_refl _, fun _ _ _ => rfl⟩
set_option maxRecDepth 100000 in
set_option maxHeartbeats 8000000 in
theorem synTyp1 (N : Sx.Names) (hN : Sx.NamesOk N) (W0 : World) (b : Nat) (t : Sx.Ty) (hkd : t.kind = 1) : TypOk N W0 b t := by
 intro d v c l w hr ht h hc
 obtain ⟨An, cn, Ae, ce, Ap, cp, rfl, hnm, hem, hp⟩ := ht.agg
 obtain ⟨d', rfl, hr', hsh⟩ := Sx.right_parts hr
 rw [hkd] at hsh ht ⊢
 have hsz := Sx.size_parts t
 have hs1 : c + 10 ≤ 1000000000 := by omega
 have HT := Lib.hid (show Sx.typ t = [[105, 110, 116]] by rw [Sx.typ_eq, hkd]; simp)
 have HR := Lib.hid hr'
 have HSZ := Lib.hid hsz
 have HTY := Lib.hid ht
 have HP := Lib.hid hp
 obtain ⟨L, hL⟩ : ∃ L, w.heap.size = L := ⟨_, rfl⟩
 obtain ⟨w2, hw2⟩ : ∃ w2, w.alloc (.cells #[.int .i64 1, .string ⟨t.name.toArray⟩, .slice An t.names.length cn, .slice Ae t.embeds.length ce, .slice Ap t.parts.length cp] 26) = w2 := ⟨_, rfl⟩
 have hbox : w2.heap[L]? = some (.cells #[.int .i64 1, .string ⟨t.name.toArray⟩, .slice An t.names.length cn, .slice Ae t.embeds.length ce, .slice Ap t.parts.length cp] 26 (0, 0)) := by rw [← hw2, ← hL]; exact heap_alloc_new w _
 have hW2 : Wrote W0 b c l w2 := by rw [← hw2]; exact h.grown (World.grownBy_alloc w _ none)
 have HKW := Lib.hid (show KeepW w w2 by rw [← hw2]; exact KeepW.alloc w _)
 have HBX := Lib.hid hbox
 have HW2 := Lib.hid hW2
 obtain ⟨x0, x1, x2, x3, x4⟩ := zcZ hbox
 have hl2 := zaZ hbox
 have hbl := hW2.lt
 clear hr hr' ht hp hnm hem hsz hW2 hbox h hsh hkd
 go_enter Tryz.func59, Tryz.ntmps59
 go_wp2_with (go_at_call 100; refine (put1 (s := [105, 110, 116]) HW2.out ⟨by simp, by simp⟩ (by omega)).mono ?_; rintro e w3 ⟨rfl, hW3, hk3⟩)
 go_end0
 exact ⟨rfl, (hW3.mono (by have := HSZ.out; omega)).cast (by rw [HT.out]), HKW.out.trans hk3⟩
set_option maxRecDepth 100000 in
set_option maxHeartbeats 8000000 in
theorem synTyp2 (N : Sx.Names) (hN : Sx.NamesOk N) (W0 : World) (b : Nat) (t : Sx.Ty) (hkd : t.kind = 2) : TypOk N W0 b t := by
 intro d v c l w hr ht h hc
 obtain ⟨An, cn, Ae, ce, Ap, cp, rfl, hnm, hem, hp⟩ := ht.agg
 obtain ⟨d', rfl, hr', hsh⟩ := Sx.right_parts hr
 rw [hkd] at hsh ht ⊢
 have hsz := Sx.size_parts t
 have hs1 : c + 10 ≤ 1000000000 := by omega
 have HT := Lib.hid (show Sx.typ t = [[98, 111, 111, 108]] by rw [Sx.typ_eq, hkd]; simp)
 have HR := Lib.hid hr'
 have HSZ := Lib.hid hsz
 have HTY := Lib.hid ht
 have HP := Lib.hid hp
 obtain ⟨L, hL⟩ : ∃ L, w.heap.size = L := ⟨_, rfl⟩
 obtain ⟨w2, hw2⟩ : ∃ w2, w.alloc (.cells #[.int .i64 2, .string ⟨t.name.toArray⟩, .slice An t.names.length cn, .slice Ae t.embeds.length ce, .slice Ap t.parts.length cp] 26) = w2 := ⟨_, rfl⟩
 have hbox : w2.heap[L]? = some (.cells #[.int .i64 2, .string ⟨t.name.toArray⟩, .slice An t.names.length cn, .slice Ae t.embeds.length ce, .slice Ap t.parts.length cp] 26 (0, 0)) := by rw [← hw2, ← hL]; exact heap_alloc_new w _
 have hW2 : Wrote W0 b c l w2 := by rw [← hw2]; exact h.grown (World.grownBy_alloc w _ none)
 have HKW := Lib.hid (show KeepW w w2 by rw [← hw2]; exact KeepW.alloc w _)
 have HBX := Lib.hid hbox
 have HW2 := Lib.hid hW2
 obtain ⟨x0, x1, x2, x3, x4⟩ := zcZ hbox
 have hl2 := zaZ hbox
 have hbl := hW2.lt
 clear hr hr' ht hp hnm hem hsz hW2 hbox h hsh hkd
 go_enter Tryz.func59, Tryz.ntmps59
 go_wp2_with (go_at_call 100; refine (put1 (s := [98, 111, 111, 108]) HW2.out ⟨by simp, by simp⟩ (by omega)).mono ?_; rintro e w3 ⟨rfl, hW3, hk3⟩)
 go_end0
 exact ⟨rfl, (hW3.mono (by have := HSZ.out; omega)).cast (by rw [HT.out]), HKW.out.trans hk3⟩
set_option maxRecDepth 100000 in
set_option maxHeartbeats 8000000 in
theorem synTyp3 (N : Sx.Names) (hN : Sx.NamesOk N) (W0 : World) (b : Nat) (t : Sx.Ty) (hkd : t.kind = 3) : TypOk N W0 b t := by
 intro d v c l w hr ht h hc
 obtain ⟨An, cn, Ae, ce, Ap, cp, rfl, hnm, hem, hp⟩ := ht.agg
 obtain ⟨d', rfl, hr', hsh⟩ := Sx.right_parts hr
 rw [hkd] at hsh ht ⊢
 have hsz := Sx.size_parts t
 have hs1 : c + 10 ≤ 1000000000 := by omega
 have HT := Lib.hid (show Sx.typ t = [[116, 101, 120, 116]] by rw [Sx.typ_eq, hkd]; simp)
 have HR := Lib.hid hr'
 have HSZ := Lib.hid hsz
 have HTY := Lib.hid ht
 have HP := Lib.hid hp
 obtain ⟨L, hL⟩ : ∃ L, w.heap.size = L := ⟨_, rfl⟩
 obtain ⟨w2, hw2⟩ : ∃ w2, w.alloc (.cells #[.int .i64 3, .string ⟨t.name.toArray⟩, .slice An t.names.length cn, .slice Ae t.embeds.length ce, .slice Ap t.parts.length cp] 26) = w2 := ⟨_, rfl⟩
 have hbox : w2.heap[L]? = some (.cells #[.int .i64 3, .string ⟨t.name.toArray⟩, .slice An t.names.length cn, .slice Ae t.embeds.length ce, .slice Ap t.parts.length cp] 26 (0, 0)) := by rw [← hw2, ← hL]; exact heap_alloc_new w _
 have hW2 : Wrote W0 b c l w2 := by rw [← hw2]; exact h.grown (World.grownBy_alloc w _ none)
 have HKW := Lib.hid (show KeepW w w2 by rw [← hw2]; exact KeepW.alloc w _)
 have HBX := Lib.hid hbox
 have HW2 := Lib.hid hW2
 obtain ⟨x0, x1, x2, x3, x4⟩ := zcZ hbox
 have hl2 := zaZ hbox
 have hbl := hW2.lt
 clear hr hr' ht hp hnm hem hsz hW2 hbox h hsh hkd
 go_enter Tryz.func59, Tryz.ntmps59
 go_wp2_with (go_at_call 100; refine (put1 (s := [116, 101, 120, 116]) HW2.out ⟨by simp, by simp⟩ (by omega)).mono ?_; rintro e w3 ⟨rfl, hW3, hk3⟩)
 go_end0
 exact ⟨rfl, (hW3.mono (by have := HSZ.out; omega)).cast (by rw [HT.out]), HKW.out.trans hk3⟩
set_option maxRecDepth 100000 in
set_option maxHeartbeats 8000000 in
theorem synTyp4 (N : Sx.Names) (hN : Sx.NamesOk N) (W0 : World) (b : Nat) (t : Sx.Ty) (hkd : t.kind = 4) : TypOk N W0 b t := by
 intro d v c l w hr ht h hc
 obtain ⟨An, cn, Ae, ce, Ap, cp, rfl, hnm, hem, hp⟩ := ht.agg
 obtain ⟨d', rfl, hr', hsh⟩ := Sx.right_parts hr
 rw [hkd] at hsh ht ⊢
 have hsz := Sx.size_parts t
 have hs1 : c + 10 ≤ 1000000000 := by omega
 have HT := Lib.hid (show Sx.typ t = [t.name] by rw [Sx.typ_eq, hkd]; simp)
 have hg : N.great t.name = true := by simp [Sx.shape] at hsh; exact hsh.1.1.1
 have HNE := Lib.hid (hN.great _ hg)
 have hnl : t.name.length ≤ 1000000000 := by omega
 clear hg
 have HR := Lib.hid hr'
 have HSZ := Lib.hid hsz
 have HTY := Lib.hid ht
 have HP := Lib.hid hp
 obtain ⟨L, hL⟩ : ∃ L, w.heap.size = L := ⟨_, rfl⟩
 obtain ⟨w2, hw2⟩ : ∃ w2, w.alloc (.cells #[.int .i64 4, .string ⟨t.name.toArray⟩, .slice An t.names.length cn, .slice Ae t.embeds.length ce, .slice Ap t.parts.length cp] 26) = w2 := ⟨_, rfl⟩
 have hbox : w2.heap[L]? = some (.cells #[.int .i64 4, .string ⟨t.name.toArray⟩, .slice An t.names.length cn, .slice Ae t.embeds.length ce, .slice Ap t.parts.length cp] 26 (0, 0)) := by rw [← hw2, ← hL]; exact heap_alloc_new w _
 have hW2 : Wrote W0 b c l w2 := by rw [← hw2]; exact h.grown (World.grownBy_alloc w _ none)
 have HKW := Lib.hid (show KeepW w w2 by rw [← hw2]; exact KeepW.alloc w _)
 have HBX := Lib.hid hbox
 have HW2 := Lib.hid hW2
 obtain ⟨x0, x1, x2, x3, x4⟩ := zcZ hbox
 have hl2 := zaZ hbox
 have hbl := hW2.lt
 clear hr hr' ht hp hnm hem hsz hW2 hbox h hsh hkd
 go_enter Tryz.func59, Tryz.ntmps59
 go_wp2_with fail
 have HW3 := Lib.hid HW2.out.drew
 have HK3 := Lib.hid (HKW.out.trans (KeepW.drew w2))
 go_region_with (go_at_call 100; refine (put1 (s := t.name) HW3.out ⟨HNE.out, hnl⟩ (by omega)).mono ?_; rintro e w4 ⟨rfl, hW4, hk4⟩)
 go_end0
 exact ⟨rfl, (hW4.mono (by have := HSZ.out; omega)).cast (by rw [HT.out]), HK3.out.trans hk4⟩
set_option maxRecDepth 100000 in
set_option maxHeartbeats 8000000 in
theorem synTyp5 (N : Sx.Names) (hN : Sx.NamesOk N) (W0 : World) (b : Nat) (t : Sx.Ty) (ih : ∀ p ∈ t.parts, TypOk N W0 b p) (hkd : t.kind = 5) : TypOk N W0 b t := by
 intro d v c l w hr ht h hc
 obtain ⟨An, cn, Ae, ce, Ap, cp, rfl, hnm, hem, hp⟩ := ht.agg
 obtain ⟨d', rfl, hr', hsh⟩ := Sx.right_parts hr
 rw [hkd] at hsh ht ⊢
 have hsz := Sx.size_parts t
 have hs1 : c + 10 ≤ 1000000000 := by omega
 have hl1 : 0 < t.parts.length := by simp [Sx.shape] at hsh; omega
 obtain ⟨g, off, An1, cn1, Ae1, ce1, Aq, cq, rfl, hty, hc5⟩ := hp.spot 0 hl1
 have HT := Lib.hid (show Sx.typ t = [42] :: Sx.typ (t.parts[0]'hl1) by
  rw [Sx.typ_eq, hkd, Sx.typL_head hl1]
  simp)
 have hsm := Sx.size_mem (List.getElem_mem hl1)
 obtain ⟨p, hpe⟩ : ∃ p, t.parts[0]'hl1 = p := ⟨_, rfl⟩
 have hmem : p ∈ t.parts := by rw [← hpe]; exact List.getElem_mem hl1
 rw [hpe] at hty hc5 hsm HT
 have hsp := Sx.size_pos p
 have HTP := Lib.hid hty
 have HC5 := Lib.hid hc5
 have HMEM := Lib.hid hmem
 have HIH := Lib.hid ih
 have HL1 := Lib.hid hl1
 have hl1i : (0 : Int) < (t.parts.length : Int) := by omega
 have hbud : c + 10 * (1 + Sx.size p) ≤ 1000000000 := by omega
 have hbud2 : 1 + Sx.size p ≤ Sx.size t := by omega
 clear hty hc5 hpe hmem ih hsm hl1
 have HR := Lib.hid hr'
 have HSZ := Lib.hid hsz
 have HTY := Lib.hid ht
 have HP := Lib.hid hp
 obtain ⟨L, hL⟩ : ∃ L, w.heap.size = L := ⟨_, rfl⟩
 obtain ⟨w2, hw2⟩ : ∃ w2, w.alloc (.cells #[.int .i64 5, .string ⟨t.name.toArray⟩, .slice An t.names.length cn, .slice Ae t.embeds.length ce, .slice (some ⟨g, off, none⟩) t.parts.length cp] 26) = w2 := ⟨_, rfl⟩
 have hbox : w2.heap[L]? = some (.cells #[.int .i64 5, .string ⟨t.name.toArray⟩, .slice An t.names.length cn, .slice Ae t.embeds.length ce, .slice (some ⟨g, off, none⟩) t.parts.length cp] 26 (0, 0)) := by rw [← hw2, ← hL]; exact heap_alloc_new w _
 have hW2 : Wrote W0 b c l w2 := by rw [← hw2]; exact h.grown (World.grownBy_alloc w _ none)
 have HKW := Lib.hid (show KeepW w w2 by rw [← hw2]; exact KeepW.alloc w _)
 have HBX := Lib.hid hbox
 have HW2 := Lib.hid hW2
 obtain ⟨x0, x1, x2, x3, x4⟩ := zcZ hbox
 have hl2 := zaZ hbox
 have hbl := hW2.lt
 clear hr hr' ht hp hnm hem hsz hW2 hbox h hsh hkd
 clear x0 x1 x2 x3 x4
 obtain ⟨x0, x1, x2, x3, x4⟩ := zcZ HBX.out
 go_enter Tryz.func59, Tryz.ntmps59
 go_wp2_with (first
  | (go_at_call 100; refine (put1 (s := [42]) HW2.out ⟨by simp, by simp⟩ (by omega)).mono ?_; rintro e w5 ⟨rfl, hW5, hk5⟩; have hbox5 := hk5 _ _ _ _ HBX.out (by decide) (by decide); clear x0 x1 x2 x3 x4; obtain ⟨y0, y1, y2, y3, y4⟩ := zcZ hbox5; have hl5 := zaZ hbox5; have HW5 := Lib.hid hW5; have HK5 := Lib.hid hk5; clear hbox5 hW5 hk5; obtain ⟨hg5, d0, d1, d2, d3, d4⟩ := HC5.out w5 HW5.out.below; rw [Nat.zero_mul, Nat.add_zero] at d0 d1 d2 d3 d4)
  | (go_at_call 59; refine (HIH.out p HMEM.out d' _ _ _ w5 (HR.out p HMEM.out) HTP.out HW5.out (by omega)).mono ?_; rintro e w6 ⟨rfl, hW6, hk6⟩))
 go_end0
 refine ⟨rfl, (hW6.mono ?_).cast ?_, (HKW.out.trans HK5.out).trans hk6⟩
 ·omega
 ·rw [HT.out]; simp [List.append_assoc]
set_option maxRecDepth 100000 in
set_option maxHeartbeats 8000000 in
theorem synTyp7 (N : Sx.Names) (hN : Sx.NamesOk N) (W0 : World) (b : Nat) (t : Sx.Ty) (hsig : SigOk N W0 b t) (hkd : t.kind = 7) : TypOk N W0 b t := by
 intro d v c l w hr ht h hc
 obtain ⟨An, cn, Ae, ce, Ap, cp, rfl, hnm, hem, hp⟩ := ht.agg
 obtain ⟨d', rfl, hr', hsh⟩ := Sx.right_parts hr
 rw [hkd] at hsh ht ⊢
 have hsz := Sx.size_parts t
 have hs1 : c + 10 ≤ 1000000000 := by omega
 have HNE := Lib.hid (show t.parts ≠ [] by rintro e; simp [Sx.shape, e] at hsh)
 have HT := Lib.hid (show Sx.typ t = [[102, 110]] ++ Sx.signature t by rw [Sx.typ_eq, hkd, Sx.sig_eq]; simp)
 have HS := Lib.hid hsig
 have hsp := Sx.size_pos t
 clear hsig
 have HR := Lib.hid hr'
 have HSZ := Lib.hid hsz
 have HTY := Lib.hid ht
 have HP := Lib.hid hp
 obtain ⟨L, hL⟩ : ∃ L, w.heap.size = L := ⟨_, rfl⟩
 obtain ⟨w2, hw2⟩ : ∃ w2, w.alloc (.cells #[.int .i64 7, .string ⟨t.name.toArray⟩, .slice An t.names.length cn, .slice Ae t.embeds.length ce, .slice Ap t.parts.length cp] 26) = w2 := ⟨_, rfl⟩
 have hbox : w2.heap[L]? = some (.cells #[.int .i64 7, .string ⟨t.name.toArray⟩, .slice An t.names.length cn, .slice Ae t.embeds.length ce, .slice Ap t.parts.length cp] 26 (0, 0)) := by rw [← hw2, ← hL]; exact heap_alloc_new w _
 have hW2 : Wrote W0 b c l w2 := by rw [← hw2]; exact h.grown (World.grownBy_alloc w _ none)
 have HKW := Lib.hid (show KeepW w w2 by rw [← hw2]; exact KeepW.alloc w _)
 have HBX := Lib.hid hbox
 have HW2 := Lib.hid hW2
 obtain ⟨x0, x1, x2, x3, x4⟩ := zcZ hbox
 have hl2 := zaZ hbox
 have hbl := hW2.lt
 clear hr hr' ht hp hnm hem hsz hW2 hbox h hsh hkd
 go_enter Tryz.func59, Tryz.ntmps59
 go_wp2_with (first
  | (go_at_call 100; refine (put1 (s := [102, 110]) HW2.out ⟨by simp, by simp⟩ (by omega)).mono ?_; rintro e w5 ⟨rfl, hW5, hk5⟩; have hbox5 := hk5 _ _ _ _ HBX.out (by decide) (by decide); clear x0 x1 x2 x3 x4; obtain ⟨y0, y1, y2, y3, y4⟩ := zcZ hbox5; have hl5 := zaZ hbox5; have HW5 := Lib.hid hW5; have HK5 := Lib.hid hk5; clear hbox5 hW5 hk5)
  | (go_at_call 109; refine (HS.out d' _ _ _ w5 HR.out HNE.out HTY.out HW5.out (by omega)).mono ?_; rintro e w6 ⟨rfl, hW6, hk6⟩))
 go_end0
 refine ⟨rfl, (hW6.mono ?_).cast ?_, (HKW.out.trans HK5.out).trans hk6⟩
 ·omega
 ·rw [HT.out]; simp [List.append_assoc]
end Go.Proofs.YtdncljdfmdgdaaaGreatDoor
