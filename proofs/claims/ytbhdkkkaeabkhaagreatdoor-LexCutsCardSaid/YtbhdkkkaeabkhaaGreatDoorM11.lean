/-
  coillaw1.refused: is an error a refusal of that place and number?
-/
import Derived.Test.YtbhdkkkaeabkhaaGreatDoorM9
import Derived.Test.YtbhdkkkaeabkhaaGreatDoorM10
namespace Go.Proofs.YtbhdkkkaeabkhaaGreatDoor
open Go.RowKit Go.Shelf
set_option linter.unusedSimpArgs false
set_option linter.unusedVariables false

/-- The package-level variables that a law asks. -/
structure GL (w : World) : Prop where
  gs : GS w
  et : w.cell? ⟨0, 0, none⟩ = some (.iface 127 (.agg #[.pointer (some ⟨10, 32, none⟩)]))
theorem GL.below {w w' : World} (h : GL w) (hb : Below w.heap.size w w') : GL w' :=
  ⟨h.gs.below hb, (World.cell?_of_block (hb.block 0 (lt_of_cell0 h.et))).trans h.et⟩
theorem GL.alloc {w : World} (h : GL w) (o : Obj) : GL (w.alloc o) := h.below (grown_below (World.grownBy_alloc _ _ _))

theorem lawRefusedNil (a b : Int) (w : World) : Calls Tryz.prog 17 #[.nilIface, .int .i64 a, .int .i64 b] w fun e w' => e = .returned (.bool false) ∧ Below w.heap.size w w' := by
  go_enter Tryz.func17, Tryz.ntmps17
  go_wp2
  go_ret
  exact ⟨rfl, grown_below (World.grownBy_alloc _ _ _)⟩

/-- A world in which the refusal lies, and the variable that holds it. -/
structure RV (w : World) (g R : Nat) (p y : Int) (W : World) : Prop where
  b : Below w.heap.size w W
  r : IsRef W g p y
  s : GL W
  v : W.heap[R]? = some (.cells #[.pointer (some ⟨g, 0, none⟩)] 74 (0, 0))
theorem RV.go {w W W' : World} {g R : Nat} {p y : Int} (h : RV w g R p y W) (hb : Below W.heap.size W W') : RV w g R p y W' :=
  ⟨h.b.trans (hb.mono h.b.size), (hb.block g (lt_of_block h.r)).trans h.r, h.s.below hb, (hb.block R (lt_of_block h.v)).trans h.v⟩
theorem RV.cells {w W : World} {g R : Nat} {p y : Int} (h : RV w g R p y W) : W.cell? ⟨g, 0, none⟩ = some (.int .i64 p) ∧ W.cell? ⟨g, 1, none⟩ = some (.int .i64 y) ∧ W.cell? ⟨R, 0, none⟩ = some (.pointer (some ⟨g, 0, none⟩)) := ⟨cell_of h.r 0, cell_of h.r 1, cell_of h.v 0⟩

theorem RV.start {w : World} {g : Nat} {p y : Int} (hR : IsRef w g p y) (hG : GL w) (c1 c2 c3 c4 : Array Value) (t1 t2 t3 t4 : TypeId) :
    RV w g w.heap.size p y ((((((w.alloc (.cells #[.pointer none] 74)).alloc (.cells c1 t1)).alloc (.cells c2 t2)).alloc (.cells c3 t3)).alloc (.cells c4 t4)).setCell ⟨w.heap.size, 0, none⟩ (.pointer (some ⟨g, 0, none⟩))) := by
  obtain ⟨W, hW⟩ : ∃ W, ((((w.alloc (.cells #[.pointer none] 74)).alloc (.cells c1 t1)).alloc (.cells c2 t2)).alloc (.cells c3 t3)).alloc (.cells c4 t4) = W := ⟨_, rfl⟩
  have hg : w.grownBy W none := by
    rw [← hW]
    exact ((((World.grownBy_alloc _ _ _).trans (World.grownBy_alloc _ _ _)).trans (World.grownBy_alloc _ _ _)).trans (World.grownBy_alloc _ _ _)).trans (World.grownBy_alloc _ _ _)
  have hv : W.heap[w.heap.size]? = some (.cells #[.pointer none] 74 (0, 0)) := by
    rw [← hW]
    exact heap_alloc (heap_alloc (heap_alloc (heap_alloc (heap_alloc_new w _) _) _) _) _
  rw [hW]
  have hb : Below w.heap.size w (W.setCell ⟨w.heap.size, 0, none⟩ (.pointer (some ⟨g, 0, none⟩))) := Below.turn (grown_below hg) (grown_set _ _ _ _) (fun r e => by injection e with e; omega)
  refine ⟨hb, (hb.block g (lt_of_block hR)).trans hR, hG.below hb, ?_⟩
  simp [World.setCell, Array.getElem?_modify, hv]

set_option maxHeartbeats 8000000 in
theorem lawRefused (g : Nat) (p y a b : Int) (w : World) (hR : IsRef w g p y) (hG : GL w) (hp0 : -9223372036854775808 ≤ p) (hp1 : p ≤ 9223372036854775807) (hy0 : 0 ≤ y) (hy1 : y ≤ 1000000) :
    Calls Tryz.prog 17 #[.iface 74 (.pointer (some ⟨g, 0, none⟩)), .int .i64 a, .int .i64 b] w fun e w' => e = .returned (.bool (p == a && y == b)) ∧ Below w.heap.size w w' := by
  have hAs : Calls Tryz.prog 40 #[.iface 74 (.pointer (some ⟨g, 0, none⟩)), .iface 78 (.pointer (some ⟨w.heap.size, 0, none⟩))] (w.alloc (.cells #[.pointer none] 74)) fun e W => e = .returned (.bool true) ∧ RV w g w.heap.size p y W :=
    (as_hit ⟨g, 0, none⟩ ⟨w.heap.size, 0, none⟩ (.pointer none) (w.alloc (.cells #[.pointer none] 74)) (hG.alloc _).et (cell_of (heap_alloc_new w _) 0) (free_of (heap_alloc_new w _) 0)).mono fun e W h => ⟨h.1, by rw [h.2]; exact RV.start hR hG _ _ _ _ _ _ _ _⟩
  have hw : ∀ W, RV w g w.heap.size p y W → Calls Tryz.prog 41 #[.agg #[.int .i64 p]] W fun e W' => e = .returned (.int .i64 p) ∧ RV w g w.heap.size p y W' := fun W h => (apiWhere p W).mono fun e W' h' => ⟨h'.1, h.go (grown_below h'.2)⟩
  have he : ∀ W, RV w g w.heap.size p y W → Calls Tryz.prog 42 #[.pointer (some ⟨g, 0, none⟩)] W fun e W' => (∃ s : ByteArray, e = .returned (.string s) ∧ s.toList.isEmpty = false) ∧ RV w g w.heap.size p y W' := fun W h => (lexRefErr g p y W h.r h.s.gs hp0 hp1 hy0 hy1).mono fun e W' h' => ⟨h'.1, h.go h'.2⟩
  have hi : ∀ W, RV w g w.heap.size p y W → Calls Tryz.prog 43 #[.iface 74 (.pointer (some ⟨g, 0, none⟩)), .iface 36 (.int .i64 y)] W fun e W' => e = .returned (.bool true) ∧ W' = W := fun W h => is_hit g p y W h.r
  clear hR hG
  cases hpa : (p == a) with
  | false =>
    clear hi he
    go_enter Tryz.func17, Tryz.ntmps17
    go_wp2_with (first
      | (go_at_call 40; refine hAs.mono ?_; clear hAs; rintro e W1 ⟨rfl, H1⟩; obtain ⟨d0, d1, d2⟩ := H1.cells)
      | (go_at_call 41; refine (hw _ (by assumption)).mono ?_; rintro e W2 ⟨rfl, H2⟩; obtain ⟨d3, d4, d5⟩ := H2.cells))
    go_ret
    exact ⟨rfl, H2.b⟩
  | true =>
    cases hyb : (y == b) with
    | false =>
      clear hi he
      go_enter Tryz.func17, Tryz.ntmps17
      go_wp2_with (first
        | (go_at_call 40; refine hAs.mono ?_; clear hAs; rintro e W1 ⟨rfl, H1⟩; obtain ⟨d0, d1, d2⟩ := H1.cells)
        | (go_at_call 41; refine (hw _ (by assumption)).mono ?_; rintro e W2 ⟨rfl, H2⟩; obtain ⟨d3, d4, d5⟩ := H2.cells))
      go_ret
      exact ⟨rfl, H2.b⟩
    | true =>
      go_enter Tryz.func17, Tryz.ntmps17
      go_wp2_with (first
        | (go_at_call 40; refine hAs.mono ?_; clear hAs; rintro e W1 ⟨rfl, H1⟩; obtain ⟨d0, d1, d2⟩ := H1.cells)
        | (go_at_call 41; refine (hw _ (by assumption)).mono ?_; rintro e W2 ⟨rfl, H2⟩; obtain ⟨d3, d4, d5⟩ := H2.cells)
        | (go_at_call 42; refine (he _ (by assumption)).mono ?_; rintro e W3 ⟨⟨s, rfl, hs⟩, H3⟩; obtain ⟨d6, d7, d8⟩ := H3.cells)
        | (go_at_call 43; refine (hi _ (by assumption)).mono ?_; rintro e W4 ⟨rfl, rfl⟩))
      go_ret
      exact ⟨rfl, H3.b⟩

end Go.Proofs.YtbhdkkkaeabkhaaGreatDoor
