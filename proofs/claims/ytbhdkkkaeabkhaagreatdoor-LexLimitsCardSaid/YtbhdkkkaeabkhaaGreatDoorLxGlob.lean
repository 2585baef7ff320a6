/-
  The package-level variables that are read on these roads: what is known of them, and that it stays.
-/
import Derived.Test.YtbhdkkkaeabkhaaGreatDoorLxBegins
namespace Go.Proofs.YtbhdkkkaeabkhaaGreatDoor
open Go.RowKit
set_option linter.unusedSimpArgs false
set_option linter.unusedVariables false

theorem gAsc : Tryz.prog.globalNamed "strings.asciiSpace" = some 1 := by kernel_rfl
theorem gPow : Tryz.prog.globalNamed "internal/strconv.uint64pow10" = some 4 := by kernel_rfl

/-- An error in a variable. -/
def ErrCell (w : World) (g : Nat) : Prop := ∃ ev, w.cell? ⟨g, 0, none⟩ = some ev ∧ (ev = .nilIface ∨ ∃ te pe, ev = .iface te pe)

structure GS (w : World) : Prop where
  asc : Lib.TabIs Tryz.prog w "strings.asciiSpace" .u8 Lib.asciiSpaceTab
  pow : Lib.TabIs Tryz.prog w "internal/strconv.uint64pow10" .u64 Lib.pow10Tab
  syn : ErrCell w 5
  rng : ErrCell w 6

/-- One more than the greatest number of a variable. -/
def NG : Nat := 1 + max (max 1 4) (max (max 5 6) 0)

theorem lt_of_var {w : World} {n : String} {g : Nat} {cs : Array Value} (hg : Tryz.prog.globalNamed n = some g) (h : w.var? Tryz.prog n = some cs) : g < w.heap.size := by
  unfold World.var? at h
  rw [hg] at h
  simp only [Option.bind_some] at h
  rcases Nat.lt_or_ge g w.heap.size with h1 | h1
  · exact h1
  · rw [Array.getElem?_eq_none h1] at h
    cases h
theorem lt_of_cell0 {w : World} {g : Nat} {v : Value} (h : w.cell? ⟨g, 0, none⟩ = some v) : g < w.heap.size := World.block_lt_of_cell? w ⟨g, 0, none⟩ h

theorem GS.of_heap {w w' : World} (h : GS w) (hk : ∀ k, k < NG → k < w.heap.size → w'.heap[k]? = w.heap[k]?) : GS w' := by
  have ha := lt_of_var gAsc h.asc
  have hp := lt_of_var gPow h.pow
  obtain ⟨e1, h1, h1'⟩ := h.syn
  obtain ⟨e2, h2, h2'⟩ := h.rng
  have hs := lt_of_cell0 h1
  have hr := lt_of_cell0 h2
  refine ⟨?_, ?_, ⟨e1, ?_, h1'⟩, ⟨e2, ?_, h2'⟩⟩
  · have := h.asc
    unfold Lib.TabIs World.var? at this ⊢
    rw [gAsc] at this ⊢
    simp only [Option.bind_some] at this ⊢
    rw [hk _ (by decide) ha]
    exact this
  · have := h.pow
    unfold Lib.TabIs World.var? at this ⊢
    rw [gPow] at this ⊢
    simp only [Option.bind_some] at this ⊢
    rw [hk _ (by decide) hp]
    exact this
  · rw [← h1]; exact World.cell?_of_block (hk _ (by decide) hs)
  · rw [← h2]; exact World.cell?_of_block (hk _ (by decide) hr)
theorem GS.below {w w' : World} (h : GS w) (hb : Below w.heap.size w w') : GS w' := h.of_heap fun k _ hk => hb.block k hk
theorem GS.grown {w w' : World} {b : Nat} (h : GS w) (hg : w.grownBy w' (some b)) (hb : NG ≤ b) : GS w' := h.of_heap fun k hn hk => hg.block k hk (fun e => by injection e with e; omega)
theorem GS.alloc {w : World} (h : GS w) (o : Obj) : GS (w.alloc o) := h.of_heap fun k _ hk => Below.heap_alloc w o k hk
theorem GS.drewN {w : World} (h : GS w) (n : Nat) : GS (w.drewN n) := h.of_heap fun _ _ _ => rfl

end Go.Proofs.YtbhdkkkaeabkhaaGreatDoor
