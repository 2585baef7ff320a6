/-
  What package syntax's writer tells.
  The walks of a type's text: signature, typ.
  The walk of typ at the kinds without a loop.
-/
import Derived.Test.YtdncljdfmdgdaaaGreatDoorM8
namespace Go.Proofs.YtdncljdfmdgdaaaGreatDoor
open Go.RowKit Go.Shelf Go.WideMaps
set_option linter.unusedSimpArgs false
set_option linter.unusedVariables false

set_option maxHeartbeats 4000000 in
set_option maxRecDepth 100000 in
theorem synTold (B b : Nat) (x : Sx.Wr) (r : Bool) (w : World) (h : Wri B b x w) (hx : x.b.length ≤ 1000065537) (hn : x.n ≤ 1000000000) :
    Calls Tryz.prog 60 #[.pointer (some ⟨b, 0, none⟩), .bool r] w fun e w' =>
      e = .returned (.tuple #[.string ⟨(Sx.told r x).1.toArray⟩, .int .i64 ((Sx.told r x).2 : Nat)]) ∧ Below B w w' := by
  obtain ⟨c2, f2, hbl, hB⟩ := h.cells
  have hlen := wriLen B b x w h
  have hstr := wriString B b x w h
  obtain ⟨k, hk⟩ : ∃ k, x.b.length = k := ⟨_, rfl⟩
  obtain ⟨n, hnn⟩ : ∃ n, x.n = n := ⟨_, rfl⟩
  rw [hk] at hlen
  rw [hnn] at c2
  have hk0 : (0 : Int) ≤ (k : Int) := by omega
  have hn0 : (0 : Int) ≤ (n : Int) := by omega
  have hki : (k : Int) ≤ 1000065537 := by omega
  have hni : (n : Int) ≤ 1000000000 := by omega
  have HL := Lib.hid hlen
  have HS := Lib.hid hstr
  have HK := Lib.hid hk
  have HN := Lib.hid hnn
  clear hlen hstr hk hnn hx hn h
  cases r with
  | false =>
    go_enter Tryz.func60, Tryz.ntmps60
    go_wp2_with fail
    refine bodyPost_ret (results_tmp2 rfl _ _ _) rfl ?_
    exact ⟨rfl, Below.refl _ _⟩
  | true =>
    by_cases hbig : 65536 < k
    · have hbi : (65536 : Int) < (k : Int) := by omega
      have ht : Sx.told true x = ([], 2) := by unfold Sx.told; rw [HK.out, if_pos hbig]; rfl
      rw [ht]
      clear ht
      go_enter Tryz.func60, Tryz.ntmps60
      go_wp2_with (go_at_call 92; refine HL.out.mono ?_; rintro e W3 ⟨rfl, rfl⟩)
      refine bodyPost_ret (results_tmp2 rfl _ _ _) rfl ?_
      exact ⟨rfl, Below.refl _ _⟩
    · have hbi : (k : Int) ≤ (65536 : Int) := by omega
      by_cases hmany : 4096 < n
      · have hmi : (4096 : Int) < (n : Int) := by omega
        have ht : Sx.told true x = ([], 3) := by unfold Sx.told; rw [HK.out, HN.out, if_neg hbig, if_pos hmany]; rfl
        rw [ht]
        clear ht
        go_enter Tryz.func60, Tryz.ntmps60
        go_wp2_with (go_at_call 92; refine HL.out.mono ?_; rintro e W3 ⟨rfl, rfl⟩)
        refine bodyPost_ret (results_tmp2 rfl _ _ _) rfl ?_
        exact ⟨rfl, Below.refl _ _⟩
      · have hmi : (n : Int) ≤ (4096 : Int) := by omega
        have ht : Sx.told true x = (x.b, 0) := by unfold Sx.told; rw [HK.out, HN.out, if_neg hbig, if_neg hmany]; rfl
        rw [ht]
        clear ht
        go_enter Tryz.func60, Tryz.ntmps60
        go_wp2_with (first
          | (go_at_call 92; refine HL.out.mono ?_; rintro e W3 ⟨rfl, rfl⟩)
          | (go_at_call 95; refine HS.out.mono ?_; rintro e W3 ⟨rfl, hb3⟩))
        refine bodyPost_ret (results_tmp2 rfl _ _ _) rfl ?_
        exact ⟨rfl, hb3⟩

/-- A row of texts newly made. -/
theorem Row.new (w : World) (l : List Lx.Bytes) : Row (w.alloc (.cells (strsV l).toArray 9)) w.heap.size l := heap_alloc_new w _
theorem Wri.grown {B b : Nat} {x : Sx.Wr} {w w' : World} (h : Wri B b x w) (hg : w.grownBy w' none) : Wri B b x w' := by
  obtain ⟨hB, p, v, hb, hp, ho, hx⟩ := h
  exact ⟨hB, p, v, (hg.block b (lt_of_block hb) (fun e => nomatch e)).trans hb, hp, World.ownsRow.kept ho hg (by cases v.ownBlock <;> simp), hx⟩

/-- What has been written since W0, by the writer in block b: the tokens l, c of them at most. -/
structure Wrote (W0 : World) (b c : Nat) (l : List Lx.Bytes) (w : World) : Prop where
  wri : Wri W0.heap.size b (Sx.puts ⟨[], 0⟩ l) w
  below : Below W0.heap.size W0 w
  good : ∀ s ∈ l, s.length ≤ 1000000000
  cnt : l.length ≤ c
theorem Wrote.grown {W0 w w' : World} {b c : Nat} {l : List Lx.Bytes} (h : Wrote W0 b c l w) (hg : w.grownBy w' none) : Wrote W0 b c l w' :=
  ⟨h.wri.grown hg, h.below.grown hg h.below.size (fun j e => nomatch e), h.good, h.cnt⟩
theorem Wrote.lt {W0 w : World} {b c : Nat} {l : List Lx.Bytes} (h : Wrote W0 b c l w) : b < w.heap.size := h.wri.cells.2.2.1
theorem Wrote.mono {W0 w : World} {b c d : Nat} {l : List Lx.Bytes} (h : Wrote W0 b c l w) (hd : c ≤ d) : Wrote W0 b d l w := ⟨h.wri, h.below, h.good, Nat.le_trans h.cnt hd⟩
theorem Wrote.cast {W0 w : World} {b c : Nat} {l m : List Lx.Bytes} (h : Wrote W0 b c l w) (e : l = m) : Wrote W0 b c m w := e ▸ h
theorem KeepW.alloc (w : World) (o : Obj) : KeepW w (w.alloc o) := KeepW.grown (World.grownBy_alloc w o none) (fun j e => nomatch e)
/-- The row laid and put. -/
theorem putRow {W0 w : World} {b c : Nat} {l m : List Lx.Bytes} (h : Wrote W0 b c l w) (hs : ∀ s ∈ m, s ≠ [] ∧ s.length ≤ 1000000000) (hn : c + m.length ≤ 1000000000) :
    Calls Tryz.prog 100 #[.pointer (some ⟨b, 0, none⟩), .slice (some ⟨w.heap.size, 0, none⟩) m.length m.length] (w.alloc (.cells (strsV m).toArray 9)) fun e w' =>
      e = .returned (.tuple #[]) ∧ Wrote W0 b (c + m.length) (l ++ m) w' ∧ KeepW w w' := by
  have hg : w.grownBy (w.alloc (.cells (strsV m).toArray 9)) none := World.grownBy_alloc w _ none
  have hc := h.cnt
  refine (synPut W0.heap.size b w.heap.size m (Sx.puts ⟨[], 0⟩ l) _ (h.wri.grown hg) (Row.new w m) hs (Sx.puts_len l _ (by simp) h.good) (by rw [Sx.puts_n]; simp; omega) (Nat.le_trans h.below.size hg.size)).mono ?_
  rintro e w' ⟨he, h1, h2, h3⟩
  refine ⟨he, ⟨?_, (h.below.grown hg h.below.size (fun j e => nomatch e)).trans h2, ?_, ?_⟩, (KeepW.grown hg (fun j e => nomatch e)).trans h3⟩
  · rw [Sx.puts_append]; exact h1
  · intro s hm
    rcases List.mem_append.1 hm with h' | h'
    · exact h.good s h'
    · exact (hs s h').2
  · rw [List.length_append]; omega
theorem put1 {W0 w : World} {b c : Nat} {l : List Lx.Bytes} {s : Lx.Bytes} (h : Wrote W0 b c l w) (hs : s ≠ [] ∧ s.length ≤ 1000000000) (hn : c + 1 ≤ 1000000000) :
    Calls Tryz.prog 100 #[.pointer (some ⟨b, 0, none⟩), .slice (some ⟨w.heap.size, 0, none⟩) 1 1] (w.alloc (.cells #[.string ⟨s.toArray⟩] 9)) fun e w' =>
      e = .returned (.tuple #[]) ∧ Wrote W0 b (c + 1) (l ++ [s]) w' ∧ KeepW w w' :=
  putRow (m := [s]) h (by simpa using hs) hn
theorem put2 {W0 w : World} {b c : Nat} {l : List Lx.Bytes} {s t : Lx.Bytes} (h : Wrote W0 b c l w) (hs : s ≠ [] ∧ s.length ≤ 1000000000) (ht : t ≠ [] ∧ t.length ≤ 1000000000) (hn : c + 2 ≤ 1000000000) :
    Calls Tryz.prog 100 #[.pointer (some ⟨b, 0, none⟩), .slice (some ⟨w.heap.size, 0, none⟩) 2 2] (w.alloc (.cells #[.string ⟨s.toArray⟩, .string ⟨t.toArray⟩] 9)) fun e w' =>
      e = .returned (.tuple #[]) ∧ Wrote W0 b (c + 2) (l ++ [s, t]) w' ∧ KeepW w w' :=
  putRow (m := [s, t]) h (by simpa using ⟨hs, ht⟩) hn

set_option maxRecDepth 100000 in
set_option maxHeartbeats 1000000 in
theorem synComma {W0 w : World} {b c : Nat} {l : List Lx.Bytes} (i : Nat) (h : Wrote W0 b c l w) (hi : i ≤ 1000000000) (hn : c + 1 ≤ 1000000000) :
    Calls Tryz.prog 131 #[.pointer (some ⟨b, 0, none⟩), .int .i64 (i : Nat)] w fun e w' =>
      e = .returned (.tuple #[]) ∧ Wrote W0 b (c + 1) (l ++ (if 0 < i then [[44]] else [])) w' ∧ KeepW w w' := by
  have H := Lib.hid h
  clear h
  have hbl := H.out.lt
  by_cases h0 : i = 0
  · subst h0
    go_enter Tryz.func131, Tryz.ntmps131
    go_wp2_with fail
    go_end0
    exact ⟨rfl, by simpa using H.out.mono (Nat.le_succ _), KeepW.refl _⟩
  · have hi0 : (0 : Int) < (i : Int) := by omega
    rw [if_pos (by omega)]
    go_enter Tryz.func131, Tryz.ntmps131
    go_wp2_with (go_at_call 100; refine (put1 (s := [44]) H.out ⟨by simp, by simp⟩ hn).mono ?_; rintro e w' ⟨rfl, h1, h2⟩)
    go_end0
    exact ⟨rfl, h1, h2⟩

end Go.Proofs.YtdncljdfmdgdaaaGreatDoor

namespace Go.Proofs.YtdncljdfmdgdaaaGreatDoor
open Go.RowKit Go.Shelf Go.WideMaps
set_option linter.unusedSimpArgs false
set_option linter.unusedVariables false

/-- The five cells of a type at an address. -/
def Cells5 (W : World) (g j : Nat) (kd : Int) (nm : Lx.Bytes) (vn ve vp : Value) : Prop :=
  g < W.heap.size ∧ W.cell? ⟨g, j, none⟩ = some (.int .i64 kd) ∧ W.cell? ⟨g, j + 1, none⟩ = some (.string ⟨nm.toArray⟩) ∧ W.cell? ⟨g, j + 2, none⟩ = some vn ∧ W.cell? ⟨g, j + 3, none⟩ = some ve ∧ W.cell? ⟨g, j + 4, none⟩ = some vp
/-- A type of a row, in whatever later world. -/
theorem TyRow.spot {W0 : World} {Ap : Option Addr} {k cp : Nat} {l : List Sx.Ty} (h : TyRow W0 (.slice Ap k cp) l) (m : Nat) (hm : m < l.length) :
    ∃ g off An cn Ae ce Aq cq, Ap = some ⟨g, off, none⟩ ∧
      IsTy W0 (.agg #[.int .i64 (l[m]'hm).kind, .string ⟨(l[m]'hm).name.toArray⟩, .slice An (l[m]'hm).names.length cn, .slice Ae (l[m]'hm).embeds.length ce, .slice Aq (l[m]'hm).parts.length cq]) (l[m]'hm) ∧
      ∀ W, Below W0.heap.size W0 W → Cells5 W g (off + m * 5) (l[m]'hm).kind (l[m]'hm).name (.slice An (l[m]'hm).names.length cn) (.slice Ae (l[m]'hm).embeds.length ce) (.slice Aq (l[m]'hm).parts.length cq) := by
  obtain ⟨A, c, hv, -, hl⟩ := h
  injection hv with h1 _ _
  subst h1
  obtain ⟨g, off, v0, v1, v2, v3, v4, rfl, c0, c1, c2, c3, c4, ht⟩ := IsTys.at hl m hm
  obtain ⟨vn, ve, vp, hagg, hsn, hse, hsp⟩ := ht.limbs
  obtain ⟨An, cn, hvn, -⟩ := id hsn
  obtain ⟨Ae, ce, hve, -⟩ := id hse
  obtain ⟨Aq, cq, hvp, -, -⟩ := id hsp
  subst hvn hve hvp
  injection hagg with hagg
  simp only [Array.mk.injEq, List.cons.injEq, and_true] at hagg
  obtain ⟨rfl, rfl, rfl, rfl, rfl⟩ := hagg
  rw [Nat.zero_add] at c0 c1 c2 c3 c4
  have hg := World.block_lt_of_cell? W0 ⟨g, _, none⟩ c0
  refine ⟨g, off, An, cn, Ae, ce, Aq, cq, rfl, ht, fun W hb => ?_⟩
  have up : ∀ {j : Nat} {u : Value}, W0.cell? ⟨g, j, none⟩ = some u → W.cell? ⟨g, j, none⟩ = some u := fun {j u} hj => (World.cell?_of_block (hb.block g hg)).trans hj
  exact ⟨Nat.lt_of_lt_of_le hg hb.size, up c0, up c1, up c2, up c3, up c4⟩
/-- A text of a row, in a later world. -/
theorem StrRow.cellAt {W0 W : World} {A : Option Addr} {k c : Nat} {l : List Lx.Bytes} (h : StrRow W0 (.slice A k c) l) (hb : Below W0.heap.size W0 W) (m : Nat) (hm : m < l.length) :
    ∃ g off, A = some ⟨g, off, none⟩ ∧ g < W.heap.size ∧ W.cell? ⟨g, off + m, none⟩ = some (.string ⟨(l[m]'hm).toArray⟩) := by
  obtain ⟨A', c', hv, hl⟩ := h
  injection hv with h1 _ _
  subst h1
  obtain ⟨g, off, rfl, hc⟩ := hl m hm
  have hg := World.block_lt_of_cell? W0 ⟨g, _, none⟩ hc
  exact ⟨g, off, rfl, Nat.lt_of_lt_of_le hg hb.size, (World.cell?_of_block (hb.block g hg)).trans hc⟩
theorem BoolRow.cellAt {W0 W : World} {A : Option Addr} {k c : Nat} {l : List Bool} (h : BoolRow W0 (.slice A k c) l) (hb : Below W0.heap.size W0 W) (m : Nat) (hm : m < l.length) :
    ∃ g off, A = some ⟨g, off, none⟩ ∧ g < W.heap.size ∧ W.cell? ⟨g, off + m, none⟩ = some (.bool (l[m]'hm)) := by
  obtain ⟨A', c', hv, hl⟩ := h
  injection hv with h1 _ _
  subst h1
  obtain ⟨g, off, rfl, hc⟩ := hl m hm
  have hg := World.block_lt_of_cell? W0 ⟨g, _, none⟩ hc
  exact ⟨g, off, rfl, Nat.lt_of_lt_of_le hg hb.size, (World.cell?_of_block (hb.block g hg)).trans hc⟩
/-- A type as an argument. -/
theorem IsTy.agg {W : World} {v : Value} {t : Sx.Ty} (h : IsTy W v t) : ∃ An cn Ae ce Ap cp, v = .agg #[.int .i64 t.kind, .string ⟨t.name.toArray⟩, .slice An t.names.length cn, .slice Ae t.embeds.length ce, .slice Ap t.parts.length cp] ∧
    StrRow W (.slice An t.names.length cn) t.names ∧ BoolRow W (.slice Ae t.embeds.length ce) t.embeds ∧ TyRow W (.slice Ap t.parts.length cp) t.parts := by
  obtain ⟨vn, ve, vp, hagg, hsn, hse, hsp⟩ := h.limbs
  obtain ⟨An, cn, hvn, -⟩ := id hsn
  obtain ⟨Ae, ce, hve, -⟩ := id hse
  obtain ⟨Ap, cp, hvp, -, -⟩ := id hsp
  subst hvn hve hvp
  exact ⟨An, cn, Ae, ce, Ap, cp, hagg, hsn, hse, hsp⟩

/-! ### the tokens up to a part -/
def Sx.parL : Nat → List Sx.Ty → List Lx.Bytes
  | _, [] => []
  | i, t :: l => (if 0 < i then [[44]] else []) ++ Sx.typ t ++ Sx.parL (i + 1) l
theorem Sx.parL_append : ∀ (l m : List Sx.Ty) (i : Nat), Sx.parL i (l ++ m) = Sx.parL i l ++ Sx.parL (i + l.length) m
  | [], m, i => by simp [Sx.parL]
  | t :: l, m, i => by
    rw [List.cons_append, Sx.parL, Sx.parL, Sx.parL_append l m (i + 1)]
    rw [List.length_cons, show i + 1 + l.length = i + (l.length + 1) by omega]
    simp [List.append_assoc]
theorem Sx.params_eq : ∀ (l : List Sx.Ty) (t : Sx.Ty) (i : Nat), Sx.params i (l ++ [t]) = Sx.parL i l ++ [[41]] ++ Sx.typ t
  | [], t, i => by simp [Sx.params, Sx.parL]
  | u :: l, t, i => by
    rw [List.cons_append, Sx.params, Sx.parL, Sx.params_eq l t (i + 1)]
    rw [if_neg (by simp)]
    simp [List.append_assoc]
theorem Sx.parL_take {l : List Sx.Ty} {m : Nat} (h : m < l.length) : Sx.parL 0 (l.take (m + 1)) = Sx.parL 0 (l.take m) ++ (if 0 < m then [[44]] else []) ++ Sx.typ l[m] := by
  rw [List.take_succ_eq_append_getElem h, Sx.parL_append, Nat.zero_add, List.length_take, Nat.min_eq_left (by omega)]
  simp [Sx.parL, List.append_assoc]
theorem Sx.sig_eq (t : Sx.Ty) : Sx.signature t = [[40]] ++ Sx.params 0 t.parts := by cases t; rw [Sx.signature]; rfl

/-- What is promised of typ, of signature at a type. -/
def TypOk (N : Sx.Names) (W0 : World) (b : Nat) (t : Sx.Ty) : Prop := ∀ (d : Nat) (v : Value) (c : Nat) (l : List Lx.Bytes) (w : World), Sx.rightT N d t = true → IsTy W0 v t → Wrote W0 b c l w → c + 10 * Sx.size t ≤ 1000000000 →
  Calls Tryz.prog 59 #[.pointer (some ⟨b, 0, none⟩), v] w fun e w' => e = .returned (.tuple #[]) ∧ Wrote W0 b (c + (10 * Sx.size t - 6)) (l ++ Sx.typ t) w' ∧ KeepW w w'
def SigOk (N : Sx.Names) (W0 : World) (b : Nat) (t : Sx.Ty) : Prop := ∀ (d : Nat) (v : Value) (c : Nat) (l : List Lx.Bytes) (w : World), (∀ p ∈ t.parts, Sx.rightT N d p = true) → t.parts ≠ [] → IsTy W0 v t → Wrote W0 b c l w → c + 10 * Sx.size t ≤ 1000000001 →
  Calls Tryz.prog 109 #[.pointer (some ⟨b, 0, none⟩), v] w fun e w' => e = .returned (.tuple #[]) ∧ Wrote W0 b (c + (10 * Sx.size t - 7)) (l ++ Sx.signature t) w' ∧ KeepW w w'

set_option maxRecDepth 100000 in
set_option maxHeartbeats 8000000 in
theorem synSig (N : Sx.Names) (W0 : World) (b : Nat) (t : Sx.Ty) (ih : ∀ p ∈ t.parts, TypOk N W0 b p) : SigOk N W0 b t := by
  intro d v c l w hr hne ht h hc
  obtain ⟨An, cn, Ae, ce, Ap, cp, rfl, -, -, hp⟩ := ht.agg
  obtain ⟨k, hk⟩ : ∃ k, t.parts.length = k + 1 := ⟨t.parts.length - 1, by have := List.length_pos_iff.2 hne; omega⟩
  have hsz := Sx.size_parts t
  have hlen := Sx.length_size t.parts
  have hs1 : c + 9 ≤ 1000000000 := by omega
  have hki : (k : Int) ≤ 1000000000 := by omega
  have hk0 : (0 : Int) ≤ (k : Int) := by omega
  rw [hk] at hp ⊢
  have hcp : (k : Int) ≤ (cp : Int) := by
    obtain ⟨A', c', e1, e2, -⟩ := hp
    injection e1 with _ _ e1
    omega
  have HP := Lib.hid hp
  have HK := Lib.hid hk
  have HR := Lib.hid hr
  have HSZ := Lib.hid hsz
  have HIH := Lib.hid ih
  obtain ⟨L, hL⟩ : ∃ L, w.heap.size = L := ⟨_, rfl⟩
  obtain ⟨w2, hw2⟩ : ∃ w2, w.alloc (.cells #[.int .i64 t.kind, .string ⟨t.name.toArray⟩, .slice An t.names.length cn, .slice Ae t.embeds.length ce, .slice Ap (k + 1) cp] 26) = w2 := ⟨_, rfl⟩
  have hbox : w2.heap[L]? = some (.cells #[.int .i64 t.kind, .string ⟨t.name.toArray⟩, .slice An t.names.length cn, .slice Ae t.embeds.length ce, .slice Ap (k + 1) cp] 26 (0, 0)) := by rw [← hw2, ← hL]; exact heap_alloc_new w _
  have hW2 : Wrote W0 b c l w2 := by rw [← hw2]; exact h.grown (World.grownBy_alloc w _ none)
  have HKW := Lib.hid (show KeepW w w2 by rw [← hw2]; exact KeepW.alloc w _)
  have HBX := Lib.hid hbox
  have HW2 := Lib.hid hW2
  obtain ⟨x0, x1, x2, x3, x4⟩ := five_cells hbox
  have hl2 := lt_of_block hbox
  have hbl := hW2.lt
  clear hr hne ht hp hk hsz hlen ih hW2 hbox h
  go_enter Tryz.func109, Tryz.ntmps109
  go_wp2_with (go_at_call 100; refine (put1 (s := [40]) HW2.out ⟨by simp, by simp⟩ (by omega)).mono ?_; rintro e w3 ⟨rfl, hW3, hk3⟩; have hbox3 := hk3 _ _ _ _ HBX.out (by decide) (by decide); have HKW3 := Lib.hid (HKW.out.trans hk3); have HW3 := Lib.hid hW3; clear x0 x1 x2 x3 x4 hk3 hW3; obtain ⟨x0, x1, x2, x3, x4⟩ := five_cells hbox3; have hl3 := lt_of_block hbox3; have HBX3 := Lib.hid hbox3; clear hbox3; have hbl3 := HW3.out.lt)
  have H3 := Lib.hid (show Wrote W0 b (c + 1 + 10 * Sx.sizeL (t.parts.take 0)) (l ++ [[40]] ++ Sx.parL 0 (t.parts.take 0)) w3 from (HW3.out.mono (by omega)).cast (by simp [Sx.parL]))
  clear x0 x1 x2 x3 x4
  go_loopg [21] k (fun i v wr => ∃ (m : Nat), i = k - m ∧ v = .int .i64 (m : Int) ∧ m ≤ k ∧ Wrote W0 b (c + 1 + 10 * Sx.sizeL (t.parts.take m)) (l ++ [[40]] ++ Sx.parL 0 (t.parts.take m)) wr ∧ KeepW w3 wr)
  case atStart => exact ⟨0, rfl, rfl, Nat.zero_le _, H3.out, KeepW.refl _⟩
  case round =>
    obtain ⟨m, hi, rfl, hm, hW, hkw⟩ := hrel
    have HI := Lib.hid hi
    have HWR := Lib.hid hW
    have m0 : (0 : Int) ≤ (m : Int) := by omega
    have hboxr := hkw _ _ _ _ HBX3.out (by decide) (by decide)
    have HKR := Lib.hid (HKW3.out.trans hkw)
    have HK3 := Lib.hid hkw
    have HBR := Lib.hid hboxr
    have hblr := hW.lt
    have hlr := lt_of_block hboxr
    have hSL := Sx.sizeL_take_le t.parts (m + 1)
    have hSZ : 1 + Sx.sizeL t.parts ≤ Sx.size t := by have := HSZ.out; omega
    clear hi hW hkw H3 HW3 HBX3
    by_cases hlt : m < k
    · have hmi : (m : Int) < (k : Int) := by omega
      have hmp : m < t.parts.length := by have := HK.out; omega
      obtain ⟨g, off, An1, cn1, Ae1, ce1, Aq, cq, rfl, hty, hc5⟩ := HP.out.spot m hmp
      obtain ⟨hg, c0, c1, c2, c3, c4⟩ := hc5 wr HWR.out.below
      clear hc5
      have hst := Sx.size_take hmp
      have hpt := Sx.parL_take hmp
      obtain ⟨p, hpe⟩ : ∃ p, t.parts[m]'hmp = p := ⟨_, rfl⟩
      have hmem : p ∈ t.parts := by rw [← hpe]; exact List.getElem_mem hmp
      rw [hpe] at c0 c1 c2 c3 c4 hty hst hpt
      have hps := Sx.size_pos p
      have HTY := Lib.hid hty
      have HPT := Lib.hid hpt
      have HMEM := Lib.hid hmem
      obtain ⟨sp, hsp⟩ : ∃ sp, Sx.size p = sp := ⟨_, rfl⟩
      obtain ⟨sm, hsm⟩ : ∃ sm, Sx.sizeL (t.parts.take m) = sm := ⟨_, rfl⟩
      rw [hsp, hsm] at hst
      rw [hst] at hSL
      rw [hsp] at hps
      have HSP := Lib.hid hsp
      have HSM := Lib.hid hsm
      have HST := Lib.hid hst
      have hbud : c + 2 + 10 * (sm + sp) ≤ 1000000000 := by omega
      obtain ⟨L4, hL4⟩ : ∃ L, wr.heap.size = L := ⟨_, rfl⟩
      obtain ⟨w4, hw4⟩ : ∃ w4, wr.alloc (.cells #[.int .i64 p.kind, .string ⟨p.name.toArray⟩, .slice An1 p.names.length cn1, .slice Ae1 p.embeds.length ce1, .slice Aq p.parts.length cq] 26) = w4 := ⟨_, rfl⟩
      have hbox4 : w4.heap[L4]? = some (.cells #[.int .i64 p.kind, .string ⟨p.name.toArray⟩, .slice An1 p.names.length cn1, .slice Ae1 p.embeds.length ce1, .slice Aq p.parts.length cq] 26 (0, 0)) := by rw [← hw4, ← hL4]; exact heap_alloc_new wr _
      have HBX4 := Lib.hid hbox4
      have HW4 := Lib.hid (show Wrote W0 b (c + 1 + 10 * sm) (l ++ [[40]] ++ Sx.parL 0 (t.parts.take m)) w4 by rw [← hw4, ← HSM.out]; exact HWR.out.grown (World.grownBy_alloc wr _ none))
      have HK4 := Lib.hid (show KeepW wr w4 by rw [← hw4]; exact KeepW.alloc wr _)
      have hl4 : L4 < w4.heap.size := lt_of_block hbox4
      clear hty hpt hmem hpe hsp hsm hst hbox4
      go_wp2_with (first
        | (go_at_call 131; refine (synComma m HW4.out (by omega) (by omega)).mono ?_; rintro e w5 ⟨rfl, hW5, hk5⟩; have hbox5 := hk5 _ _ _ _ HBX4.out (by decide) (by decide); obtain ⟨y0, y1, y2, y3, y4⟩ := five_cells hbox5; have hl5 := lt_of_block hbox5; have HW5 := Lib.hid hW5; have HK5 := Lib.hid hk5; clear hbox5 hW5 hk5)
        | (go_at_call 59; refine (HIH.out p HMEM.out d _ _ _ w5 (HR.out p HMEM.out) HTY.out HW5.out (by rw [HSP.out]; omega)).mono ?_; rintro e w6 ⟨rfl, hW6, hk6⟩))
      go_roundg (k - (m + 1))
      case measure => have := HI.out; omega
      case rel =>
        refine ⟨m + 1, rfl, by simp, hlt, (hW6.mono ?_).cast ?_, ((HK3.out.trans HK4.out).trans HK5.out).trans hk6⟩
        · rw [HST.out, HSP.out]; omega
        · rw [HPT.out]; simp [List.append_assoc]
    · have hmi : ¬ (m : Int) < (k : Int) := by omega
      obtain rfl : m = k := by omega
      have hmp : m < t.parts.length := by have := HK.out; omega
      obtain ⟨g, off, An1, cn1, Ae1, ce1, Aq, cq, rfl, hty, hc5⟩ := HP.out.spot m hmp
      have hst := Sx.size_take hmp
      have hsg : Sx.signature t = [[40]] ++ Sx.parL 0 (t.parts.take m) ++ [[41]] ++ Sx.typ (t.parts[m]'hmp) := by
        rw [Sx.sig_eq]
        conv => lhs; rw [show t.parts = t.parts.take m ++ [t.parts[m]'hmp] by rw [← List.take_succ_eq_append_getElem hmp, List.take_of_length_le (by have := HK.out; omega)]]
        rw [Sx.params_eq]
        simp [List.append_assoc]
      obtain ⟨p, hpe⟩ : ∃ p, t.parts[m]'hmp = p := ⟨_, rfl⟩
      have hmem : p ∈ t.parts := by rw [← hpe]; exact List.getElem_mem hmp
      rw [hpe] at hc5 hty hst hsg
      have HC5 := Lib.hid hc5
      have hps := Sx.size_pos p
      have HTY := Lib.hid hty
      have HSG := Lib.hid hsg
      have HMEM := Lib.hid hmem
      obtain ⟨sp, hsp⟩ : ∃ sp, Sx.size p = sp := ⟨_, rfl⟩
      obtain ⟨sm, hsm⟩ : ∃ sm, Sx.sizeL (t.parts.take m) = sm := ⟨_, rfl⟩
      rw [hsp, hsm] at hst
      rw [hst] at hSL
      rw [hsp] at hps
      have HSP := Lib.hid hsp
      have HWS := Lib.hid (show Wrote W0 b (c + 1 + 10 * sm) (l ++ [[40]] ++ Sx.parL 0 (t.parts.take m)) wr by rw [← hsm]; exact HWR.out)
      have hbud : c + 2 + 10 * (sm + sp) ≤ 1000000000 := by omega
      obtain ⟨x0, x1, x2, x3, x4⟩ := five_cells HBR.out
      clear hc5 hty hsg hmem hpe hsp hsm hst
      go_wp2_with (first
        | (go_at_call 100; refine (put1 (s := [41]) HWS.out ⟨by simp, by simp⟩ (by omega)).mono ?_; rintro e w5 ⟨rfl, hW5, hk5⟩; have hbox5 := hk5 _ _ _ _ HBR.out (by decide) (by decide); clear x0 x1 x2 x3 x4; obtain ⟨y0, y1, y2, y3, y4⟩ := five_cells hbox5; have hl5 := lt_of_block hbox5; have HW5 := Lib.hid hW5; have HK5 := Lib.hid hk5; clear hbox5 hW5 hk5; obtain ⟨hg5, d0, d1, d2, d3, d4⟩ := HC5.out w5 HW5.out.below)
        | (go_at_call 59; refine (HIH.out p HMEM.out d _ _ _ w5 (HR.out p HMEM.out) HTY.out HW5.out (by rw [HSP.out]; omega)).mono ?_; rintro e w6 ⟨rfl, hW6, hk6⟩))
      go_end0
      refine ⟨rfl, (hW6.mono ?_).cast ?_, (HKR.out.trans HK5.out).trans hk6⟩
      · rw [HSP.out]; omega
      · rw [HSG.out]; simp [List.append_assoc]

end Go.Proofs.YtdncljdfmdgdaaaGreatDoor

namespace Go.Proofs.YtdncljdfmdgdaaaGreatDoor
open Go.RowKit Go.Shelf Go.WideMaps
set_option linter.unusedSimpArgs false
set_option linter.unusedVariables false

theorem Sx.rights_mem {N : Sx.Names} {d : Nat} : ∀ {l : List Sx.Ty}, Sx.rightTs N d l = true → ∀ p ∈ l, Sx.rightT N d p = true
  | [], _, p, h => by cases h
  | t :: l, hr, p, h => by
    rw [Sx.rightTs, Bool.and_eq_true] at hr
    rcases List.mem_cons.1 h with rfl | h
    · exact hr.1
    · exact Sx.rights_mem hr.2 p h
theorem Sx.right_parts {N : Sx.Names} {d : Nat} {t : Sx.Ty} (h : Sx.rightT N d t = true) : ∃ e, d = e + 1 ∧ (∀ p ∈ t.parts, Sx.rightT N e p = true) ∧ Sx.shape N t.kind t.name t.names t.embeds t.parts = true := by
  cases t with
  | mk k n ns es ps =>
    cases d with
    | zero => simp [Sx.rightT] at h
    | succ e =>
      rw [Sx.rightT, Bool.and_eq_true] at h
      exact ⟨e, rfl, Sx.rights_mem h.1, h.2⟩
/-- Names are not empty. -/
structure Sx.NamesOk (N : Sx.Names) : Prop where
  small : ∀ s, N.small s = true → s ≠ []
  great : ∀ s, N.great s = true → s ≠ []
theorem Sx.apart_small {N : Sx.Names} : ∀ {l : List Lx.Bytes}, Sx.apart N l = true → ∀ s ∈ l, N.small s = true
  | [], _, s, h => by cases h
  | x :: l, hr, s, h => by
    rw [Sx.apart, Bool.and_eq_true, Bool.and_eq_true] at hr
    rcases List.mem_cons.1 h with rfl | h
    · exact hr.1
    · exact Sx.apart_small hr.2.2 s h
theorem Sx.typ_eq (t : Sx.Ty) : Sx.typ t = (if t.kind = 1 then [[105, 110, 116]]
    else if t.kind = 2 then [[98, 111, 111, 108]]
    else if t.kind = 3 then [[116, 101, 120, 116]]
    else if t.kind = 4 then [t.name]
    else if t.kind = 5 then [42] :: Sx.typL t.parts
    else if t.kind = 6 then [[123]] ++ Sx.fields t.names t.embeds t.parts ++ [[125]]
    else if t.kind = 7 then [[102, 110]] ++ ([[40]] ++ Sx.params 0 t.parts)
    else if t.kind = 8 then [[105, 110, 116, 101, 114, 102, 97, 99, 101], [123]] ++ Sx.methods t.names t.parts ++ [[125]]
    else []) := by cases t; rw [Sx.typ]; rfl
theorem Sx.typL_head : ∀ {l : List Sx.Ty} (h : 0 < l.length), Sx.typL l = Sx.typ (l[0]'h)
  | t :: l, h => by rw [Sx.typL]; rfl
theorem Wrote.drew {W0 w : World} {b c : Nat} {l : List Lx.Bytes} (h : Wrote W0 b c l w) : Wrote W0 b c l w.drew := h.grown ⟨rfl, rfl, rfl, Nat.le_refl _, fun _ _ _ => rfl⟩

set_option maxRecDepth 100000 in
set_option maxHeartbeats 8000000 in
theorem synTyp1 (N : Sx.Names) (hN : Sx.NamesOk N) (W0 : World) (b : Nat) (t : Sx.Ty) (hkd : t.kind = 1) : TypOk N W0 b t := by
  intro d v c l w hr ht h hc
  obtain ⟨An, cn, Ae, ce, Ap, cp, rfl, hnm, hem, hp⟩ := ht.agg
  obtain ⟨d', rfl, hr', hsh⟩ := Sx.right_parts hr
  rw [hkd] at hsh ht ⊢
  have hsz := Sx.size_parts t
  have hs1 : c + 10 ≤ 1000000000 := by omega
  have HT := Lib.hid (show Sx.typ t = [[105, 110, 116]] by rw [Sx.typ_eq, hkd]; simp)
  have HR := Lib.hid hr'
  have HSZ := Lib.hid hsz
  have HTY := Lib.hid ht
  have HP := Lib.hid hp
  obtain ⟨L, hL⟩ : ∃ L, w.heap.size = L := ⟨_, rfl⟩
  obtain ⟨w2, hw2⟩ : ∃ w2, w.alloc (.cells #[.int .i64 1, .string ⟨t.name.toArray⟩, .slice An t.names.length cn, .slice Ae t.embeds.length ce, .slice Ap t.parts.length cp] 26) = w2 := ⟨_, rfl⟩
  have hbox : w2.heap[L]? = some (.cells #[.int .i64 1, .string ⟨t.name.toArray⟩, .slice An t.names.length cn, .slice Ae t.embeds.length ce, .slice Ap t.parts.length cp] 26 (0, 0)) := by rw [← hw2, ← hL]; exact heap_alloc_new w _
  have hW2 : Wrote W0 b c l w2 := by rw [← hw2]; exact h.grown (World.grownBy_alloc w _ none)
  have HKW := Lib.hid (show KeepW w w2 by rw [← hw2]; exact KeepW.alloc w _)
  have HBX := Lib.hid hbox
  have HW2 := Lib.hid hW2
  obtain ⟨x0, x1, x2, x3, x4⟩ := five_cells hbox
  have hl2 := lt_of_block hbox
  have hbl := hW2.lt
  clear hr hr' ht hp hnm hem hsz hW2 hbox h hsh hkd
  go_enter Tryz.func59, Tryz.ntmps59
  go_wp2_with (go_at_call 100; refine (put1 (s := [105, 110, 116]) HW2.out ⟨by simp, by simp⟩ (by omega)).mono ?_; rintro e w3 ⟨rfl, hW3, hk3⟩)
  go_end0
  exact ⟨rfl, (hW3.mono (by have := HSZ.out; omega)).cast (by rw [HT.out]), HKW.out.trans hk3⟩

set_option maxRecDepth 100000 in
set_option maxHeartbeats 8000000 in
theorem synTyp2 (N : Sx.Names) (hN : Sx.NamesOk N) (W0 : World) (b : Nat) (t : Sx.Ty) (hkd : t.kind = 2) : TypOk N W0 b t := by
  intro d v c l w hr ht h hc
  obtain ⟨An, cn, Ae, ce, Ap, cp, rfl, hnm, hem, hp⟩ := ht.agg
  obtain ⟨d', rfl, hr', hsh⟩ := Sx.right_parts hr
  rw [hkd] at hsh ht ⊢
  have hsz := Sx.size_parts t
  have hs1 : c + 10 ≤ 1000000000 := by omega
  have HT := Lib.hid (show Sx.typ t = [[98, 111, 111, 108]] by rw [Sx.typ_eq, hkd]; simp)
  have HR := Lib.hid hr'
  have HSZ := Lib.hid hsz
  have HTY := Lib.hid ht
  have HP := Lib.hid hp
  obtain ⟨L, hL⟩ : ∃ L, w.heap.size = L := ⟨_, rfl⟩
  obtain ⟨w2, hw2⟩ : ∃ w2, w.alloc (.cells #[.int .i64 2, .string ⟨t.name.toArray⟩, .slice An t.names.length cn, .slice Ae t.embeds.length ce, .slice Ap t.parts.length cp] 26) = w2 := ⟨_, rfl⟩
  have hbox : w2.heap[L]? = some (.cells #[.int .i64 2, .string ⟨t.name.toArray⟩, .slice An t.names.length cn, .slice Ae t.embeds.length ce, .slice Ap t.parts.length cp] 26 (0, 0)) := by rw [← hw2, ← hL]; exact heap_alloc_new w _
  have hW2 : Wrote W0 b c l w2 := by rw [← hw2]; exact h.grown (World.grownBy_alloc w _ none)
  have HKW := Lib.hid (show KeepW w w2 by rw [← hw2]; exact KeepW.alloc w _)
  have HBX := Lib.hid hbox
  have HW2 := Lib.hid hW2
  obtain ⟨x0, x1, x2, x3, x4⟩ := five_cells hbox
  have hl2 := lt_of_block hbox
  have hbl := hW2.lt
  clear hr hr' ht hp hnm hem hsz hW2 hbox h hsh hkd
  go_enter Tryz.func59, Tryz.ntmps59
  go_wp2_with (go_at_call 100; refine (put1 (s := [98, 111, 111, 108]) HW2.out ⟨by simp, by simp⟩ (by omega)).mono ?_; rintro e w3 ⟨rfl, hW3, hk3⟩)
  go_end0
  exact ⟨rfl, (hW3.mono (by have := HSZ.out; omega)).cast (by rw [HT.out]), HKW.out.trans hk3⟩

set_option maxRecDepth 100000 in
set_option maxHeartbeats 8000000 in
theorem synTyp3 (N : Sx.Names) (hN : Sx.NamesOk N) (W0 : World) (b : Nat) (t : Sx.Ty) (hkd : t.kind = 3) : TypOk N W0 b t := by
  intro d v c l w hr ht h hc
  obtain ⟨An, cn, Ae, ce, Ap, cp, rfl, hnm, hem, hp⟩ := ht.agg
  obtain ⟨d', rfl, hr', hsh⟩ := Sx.right_parts hr
  rw [hkd] at hsh ht ⊢
  have hsz := Sx.size_parts t
  have hs1 : c + 10 ≤ 1000000000 := by omega
  have HT := Lib.hid (show Sx.typ t = [[116, 101, 120, 116]] by rw [Sx.typ_eq, hkd]; simp)
  have HR := Lib.hid hr'
  have HSZ := Lib.hid hsz
  have HTY := Lib.hid ht
  have HP := Lib.hid hp
  obtain ⟨L, hL⟩ : ∃ L, w.heap.size = L := ⟨_, rfl⟩
  obtain ⟨w2, hw2⟩ : ∃ w2, w.alloc (.cells #[.int .i64 3, .string ⟨t.name.toArray⟩, .slice An t.names.length cn, .slice Ae t.embeds.length ce, .slice Ap t.parts.length cp] 26) = w2 := ⟨_, rfl⟩
  have hbox : w2.heap[L]? = some (.cells #[.int .i64 3, .string ⟨t.name.toArray⟩, .slice An t.names.length cn, .slice Ae t.embeds.length ce, .slice Ap t.parts.length cp] 26 (0, 0)) := by rw [← hw2, ← hL]; exact heap_alloc_new w _
  have hW2 : Wrote W0 b c l w2 := by rw [← hw2]; exact h.grown (World.grownBy_alloc w _ none)
  have HKW := Lib.hid (show KeepW w w2 by rw [← hw2]; exact KeepW.alloc w _)
  have HBX := Lib.hid hbox
  have HW2 := Lib.hid hW2
  obtain ⟨x0, x1, x2, x3, x4⟩ := five_cells hbox
  have hl2 := lt_of_block hbox
  have hbl := hW2.lt
  clear hr hr' ht hp hnm hem hsz hW2 hbox h hsh hkd
  go_enter Tryz.func59, Tryz.ntmps59
  go_wp2_with (go_at_call 100; refine (put1 (s := [116, 101, 120, 116]) HW2.out ⟨by simp, by simp⟩ (by omega)).mono ?_; rintro e w3 ⟨rfl, hW3, hk3⟩)
  go_end0
  exact ⟨rfl, (hW3.mono (by have := HSZ.out; omega)).cast (by rw [HT.out]), HKW.out.trans hk3⟩

set_option maxRecDepth 100000 in
set_option maxHeartbeats 8000000 in
theorem synTyp4 (N : Sx.Names) (hN : Sx.NamesOk N) (W0 : World) (b : Nat) (t : Sx.Ty) (hkd : t.kind = 4) : TypOk N W0 b t := by
  intro d v c l w hr ht h hc
  obtain ⟨An, cn, Ae, ce, Ap, cp, rfl, hnm, hem, hp⟩ := ht.agg
  obtain ⟨d', rfl, hr', hsh⟩ := Sx.right_parts hr
  rw [hkd] at hsh ht ⊢
  have hsz := Sx.size_parts t
  have hs1 : c + 10 ≤ 1000000000 := by omega
  have HT := Lib.hid (show Sx.typ t = [t.name] by rw [Sx.typ_eq, hkd]; simp)
  have hg : N.great t.name = true := by simp [Sx.shape] at hsh; exact hsh.1.1.1
  have HNE := Lib.hid (hN.great _ hg)
  have hnl : t.name.length ≤ 1000000000 := by omega
  clear hg
  have HR := Lib.hid hr'
  have HSZ := Lib.hid hsz
  have HTY := Lib.hid ht
  have HP := Lib.hid hp
  obtain ⟨L, hL⟩ : ∃ L, w.heap.size = L := ⟨_, rfl⟩
  obtain ⟨w2, hw2⟩ : ∃ w2, w.alloc (.cells #[.int .i64 4, .string ⟨t.name.toArray⟩, .slice An t.names.length cn, .slice Ae t.embeds.length ce, .slice Ap t.parts.length cp] 26) = w2 := ⟨_, rfl⟩
  have hbox : w2.heap[L]? = some (.cells #[.int .i64 4, .string ⟨t.name.toArray⟩, .slice An t.names.length cn, .slice Ae t.embeds.length ce, .slice Ap t.parts.length cp] 26 (0, 0)) := by rw [← hw2, ← hL]; exact heap_alloc_new w _
  have hW2 : Wrote W0 b c l w2 := by rw [← hw2]; exact h.grown (World.grownBy_alloc w _ none)
  have HKW := Lib.hid (show KeepW w w2 by rw [← hw2]; exact KeepW.alloc w _)
  have HBX := Lib.hid hbox
  have HW2 := Lib.hid hW2
  obtain ⟨x0, x1, x2, x3, x4⟩ := five_cells hbox
  have hl2 := lt_of_block hbox
  have hbl := hW2.lt
  clear hr hr' ht hp hnm hem hsz hW2 hbox h hsh hkd
  go_enter Tryz.func59, Tryz.ntmps59
  go_wp2_with fail
  have HW3 := Lib.hid HW2.out.drew
  have HK3 := Lib.hid (HKW.out.trans (KeepW.drew w2))
  go_region_with (go_at_call 100; refine (put1 (s := t.name) HW3.out ⟨HNE.out, hnl⟩ (by omega)).mono ?_; rintro e w4 ⟨rfl, hW4, hk4⟩)
  go_end0
  exact ⟨rfl, (hW4.mono (by have := HSZ.out; omega)).cast (by rw [HT.out]), HK3.out.trans hk4⟩

set_option maxRecDepth 100000 in
set_option maxHeartbeats 8000000 in
theorem synTyp5 (N : Sx.Names) (hN : Sx.NamesOk N) (W0 : World) (b : Nat) (t : Sx.Ty) (ih : ∀ p ∈ t.parts, TypOk N W0 b p) (hkd : t.kind = 5) : TypOk N W0 b t := by
  intro d v c l w hr ht h hc
  obtain ⟨An, cn, Ae, ce, Ap, cp, rfl, hnm, hem, hp⟩ := ht.agg
  obtain ⟨d', rfl, hr', hsh⟩ := Sx.right_parts hr
  rw [hkd] at hsh ht ⊢
  have hsz := Sx.size_parts t
  have hs1 : c + 10 ≤ 1000000000 := by omega
  have hl1 : 0 < t.parts.length := by simp [Sx.shape] at hsh; omega
  obtain ⟨g, off, An1, cn1, Ae1, ce1, Aq, cq, rfl, hty, hc5⟩ := hp.spot 0 hl1
  have HT := Lib.hid (show Sx.typ t = [42] :: Sx.typ (t.parts[0]'hl1) by
    rw [Sx.typ_eq, hkd, Sx.typL_head hl1]
    simp)
  have hsm := Sx.size_mem (List.getElem_mem hl1)
  obtain ⟨p, hpe⟩ : ∃ p, t.parts[0]'hl1 = p := ⟨_, rfl⟩
  have hmem : p ∈ t.parts := by rw [← hpe]; exact List.getElem_mem hl1
  rw [hpe] at hty hc5 hsm HT
  have hsp := Sx.size_pos p
  have HTP := Lib.hid hty
  have HC5 := Lib.hid hc5
  have HMEM := Lib.hid hmem
  have HIH := Lib.hid ih
  have HL1 := Lib.hid hl1
  have hl1i : (0 : Int) < (t.parts.length : Int) := by omega
  have hbud : c + 10 * (1 + Sx.size p) ≤ 1000000000 := by omega
  have hbud2 : 1 + Sx.size p ≤ Sx.size t := by omega
  clear hty hc5 hpe hmem ih hsm hl1
  have HR := Lib.hid hr'
  have HSZ := Lib.hid hsz
  have HTY := Lib.hid ht
  have HP := Lib.hid hp
  obtain ⟨L, hL⟩ : ∃ L, w.heap.size = L := ⟨_, rfl⟩
  obtain ⟨w2, hw2⟩ : ∃ w2, w.alloc (.cells #[.int .i64 5, .string ⟨t.name.toArray⟩, .slice An t.names.length cn, .slice Ae t.embeds.length ce, .slice (some ⟨g, off, none⟩) t.parts.length cp] 26) = w2 := ⟨_, rfl⟩
  have hbox : w2.heap[L]? = some (.cells #[.int .i64 5, .string ⟨t.name.toArray⟩, .slice An t.names.length cn, .slice Ae t.embeds.length ce, .slice (some ⟨g, off, none⟩) t.parts.length cp] 26 (0, 0)) := by rw [← hw2, ← hL]; exact heap_alloc_new w _
  have hW2 : Wrote W0 b c l w2 := by rw [← hw2]; exact h.grown (World.grownBy_alloc w _ none)
  have HKW := Lib.hid (show KeepW w w2 by rw [← hw2]; exact KeepW.alloc w _)
  have HBX := Lib.hid hbox
  have HW2 := Lib.hid hW2
  obtain ⟨x0, x1, x2, x3, x4⟩ := five_cells hbox
  have hl2 := lt_of_block hbox
  have hbl := hW2.lt
  clear hr hr' ht hp hnm hem hsz hW2 hbox h hsh hkd
  clear x0 x1 x2 x3 x4
  obtain ⟨x0, x1, x2, x3, x4⟩ := five_cells HBX.out
  go_enter Tryz.func59, Tryz.ntmps59
  go_wp2_with (first
    | (go_at_call 100; refine (put1 (s := [42]) HW2.out ⟨by simp, by simp⟩ (by omega)).mono ?_; rintro e w5 ⟨rfl, hW5, hk5⟩; have hbox5 := hk5 _ _ _ _ HBX.out (by decide) (by decide); clear x0 x1 x2 x3 x4; obtain ⟨y0, y1, y2, y3, y4⟩ := five_cells hbox5; have hl5 := lt_of_block hbox5; have HW5 := Lib.hid hW5; have HK5 := Lib.hid hk5; clear hbox5 hW5 hk5; obtain ⟨hg5, d0, d1, d2, d3, d4⟩ := HC5.out w5 HW5.out.below; rw [Nat.zero_mul, Nat.add_zero] at d0 d1 d2 d3 d4)
    | (go_at_call 59; refine (HIH.out p HMEM.out d' _ _ _ w5 (HR.out p HMEM.out) HTP.out HW5.out (by omega)).mono ?_; rintro e w6 ⟨rfl, hW6, hk6⟩))
  go_end0
  refine ⟨rfl, (hW6.mono ?_).cast ?_, (HKW.out.trans HK5.out).trans hk6⟩
  · omega
  · rw [HT.out]; simp [List.append_assoc]

set_option maxRecDepth 100000 in
set_option maxHeartbeats 8000000 in
theorem synTyp7 (N : Sx.Names) (hN : Sx.NamesOk N) (W0 : World) (b : Nat) (t : Sx.Ty) (hsig : SigOk N W0 b t) (hkd : t.kind = 7) : TypOk N W0 b t := by
  intro d v c l w hr ht h hc
  obtain ⟨An, cn, Ae, ce, Ap, cp, rfl, hnm, hem, hp⟩ := ht.agg
  obtain ⟨d', rfl, hr', hsh⟩ := Sx.right_parts hr
  rw [hkd] at hsh ht ⊢
  have hsz := Sx.size_parts t
  have hs1 : c + 10 ≤ 1000000000 := by omega
  have HNE := Lib.hid (show t.parts ≠ [] by rintro e; simp [Sx.shape, e] at hsh)
  have HT := Lib.hid (show Sx.typ t = [[102, 110]] ++ Sx.signature t by rw [Sx.typ_eq, hkd, Sx.sig_eq]; simp)
  have HS := Lib.hid hsig
  have hsp := Sx.size_pos t
  clear hsig
  have HR := Lib.hid hr'
  have HSZ := Lib.hid hsz
  have HTY := Lib.hid ht
  have HP := Lib.hid hp
  obtain ⟨L, hL⟩ : ∃ L, w.heap.size = L := ⟨_, rfl⟩
  obtain ⟨w2, hw2⟩ : ∃ w2, w.alloc (.cells #[.int .i64 7, .string ⟨t.name.toArray⟩, .slice An t.names.length cn, .slice Ae t.embeds.length ce, .slice Ap t.parts.length cp] 26) = w2 := ⟨_, rfl⟩
  have hbox : w2.heap[L]? = some (.cells #[.int .i64 7, .string ⟨t.name.toArray⟩, .slice An t.names.length cn, .slice Ae t.embeds.length ce, .slice Ap t.parts.length cp] 26 (0, 0)) := by rw [← hw2, ← hL]; exact heap_alloc_new w _
  have hW2 : Wrote W0 b c l w2 := by rw [← hw2]; exact h.grown (World.grownBy_alloc w _ none)
  have HKW := Lib.hid (show KeepW w w2 by rw [← hw2]; exact KeepW.alloc w _)
  have HBX := Lib.hid hbox
  have HW2 := Lib.hid hW2
  obtain ⟨x0, x1, x2, x3, x4⟩ := five_cells hbox
  have hl2 := lt_of_block hbox
  have hbl := hW2.lt
  clear hr hr' ht hp hnm hem hsz hW2 hbox h hsh hkd
  go_enter Tryz.func59, Tryz.ntmps59
  go_wp2_with (first
    | (go_at_call 100; refine (put1 (s := [102, 110]) HW2.out ⟨by simp, by simp⟩ (by omega)).mono ?_; rintro e w5 ⟨rfl, hW5, hk5⟩; have hbox5 := hk5 _ _ _ _ HBX.out (by decide) (by decide); clear x0 x1 x2 x3 x4; obtain ⟨y0, y1, y2, y3, y4⟩ := five_cells hbox5; have hl5 := lt_of_block hbox5; have HW5 := Lib.hid hW5; have HK5 := Lib.hid hk5; clear hbox5 hW5 hk5)
    | (go_at_call 109; refine (HS.out d' _ _ _ w5 HR.out HNE.out HTY.out HW5.out (by omega)).mono ?_; rintro e w6 ⟨rfl, hW6, hk6⟩))
  go_end0
  refine ⟨rfl, (hW6.mono ?_).cast ?_, (HKW.out.trans HK5.out).trans hk6⟩
  · omega
  · rw [HT.out]; simp [List.append_assoc]

end Go.Proofs.YtdncljdfmdgdaaaGreatDoor
