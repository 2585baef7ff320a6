/-
  A cutter in memory: its one block; what the walks of package lex ask of the world.
-/
import Derived.Test.YtbhdkkkaeabkhaaGreatDoorLxChars
import Derived.Deep.QuietTactic
import Derived.BigQuiet
import Derived.Deep.LoopGhost
import Derived.Lib.Strings
namespace Go.Proofs.YtbhdkkkaeabkhaaGreatDoor
open Go.RowKit

/-- A callee that leaves the world alone, met in a region that draws. -/
theorem quiet_eq {P : Program} {f : FuncId} {args : Array Value} {w : World} {n : Nat} {v : Value}
    (h : Calls P f args (w.drewN n) fun e w' => e = .returned v ∧ w.drewN n = w') : Calls P f args (w.drewN n) fun e w'' => e = .returned v ∧ ∃ m, w'' = w.drewN m :=
  h.mono fun _ _ ⟨he, hm⟩ => ⟨he, n, hm.symm⟩

/-- .. behind draws. -/
theorem quiet_eq2 {P : Program} {f : FuncId} {args : Array Value} {w : World} {a n : Nat} {v : Value}
    (h : Calls P f args (w.drewN (a + n)) fun e w' => e = .returned v ∧ w.drewN (a + n) = w') :
    Calls P f args (w.drewN (a + n)) fun e w'' => e = .returned v ∧ ∃ m, w'' = w.drewN (a + m) :=
  h.mono fun _ _ ⟨he, hm⟩ => ⟨he, n, hm.symm⟩
theorem quiet_back {P : Program} {f : FuncId} {args : Array Value} {w : World} {n : Nat} {v : Value}
    (h : Calls P f args (w.drewN n) fun e w' => e = .returned v ∧ w' = w.drewN n) : Calls P f args (w.drewN n) fun e w'' => e = .returned v ∧ ∃ m, w'' = w.drewN m :=
  h.mono fun _ _ ⟨he, hm⟩ => ⟨he, n, hm⟩
theorem quiet_back2 {P : Program} {f : FuncId} {args : Array Value} {w : World} {a n : Nat} {v : Value}
    (h : Calls P f args (w.drewN (a + n)) fun e w' => e = .returned v ∧ w' = w.drewN (a + n)) :
    Calls P f args (w.drewN (a + n)) fun e w'' => e = .returned v ∧ ∃ m, w'' = w.drewN (a + m) :=
  h.mono fun _ _ ⟨he, hm⟩ => ⟨he, n, hm⟩

/-- The cutter's block. -/
def Cu (w : World) (b : Nat) (s : ByteArray) (k : Nat) : Prop := w.heap[b]? = some (.cells #[.string s, .int .i64 (k : Int)] 102 (0, 0))

section
variable {w w' : World} {b : Nat} {s : ByteArray} {k : Nat}
theorem Cu.c0 (h : Cu w b s k) : w.cell? ⟨b, 0, none⟩ = some (.string s) := by simp [World.cell?, show w.heap[b]? = _ from h]
theorem Cu.c1 (h : Cu w b s k) : w.cell? ⟨b, 1, none⟩ = some (.int .i64 (k : Int)) := by simp [World.cell?, show w.heap[b]? = _ from h]
theorem Cu.f1 (h : Cu w b s k) : w.frozen? ⟨b, 1, none⟩ = false := by simp [World.frozen?, show w.heap[b]? = _ from h]
theorem Cu.lt (h : Cu w b s k) : b < w.heap.size := (Array.getElem?_eq_some_iff.1 h).1
theorem Cu.set (h : Cu w b s k) (j : Int) (m : Nat) (hj : j = (m : Int)) : Cu (w.setCell ⟨b, 1, none⟩ (.int .i64 j)) b s m := by
  subst hj
  simp [Cu, World.setCell, Array.getElem?_modify, show w.heap[b]? = _ from h]
theorem Cu.drewN (h : Cu w b s k) (n : Nat) : Cu (w.drewN n) b s k := h
theorem Cu.alloc (h : Cu w b s k) (o : Obj) : Cu (w.alloc o) b s k := (Below.heap_alloc w o b h.lt).trans h
theorem Cu.kept (h : Cu w b s k) {row : Option Nat} (hg : w.grownBy w' row) (hr : some b ≠ row) : Cu w' b s k := (hg.block b h.lt hr).trans h
end

theorem grown_set (w : World) (b j : Nat) (v : Value) : w.grownBy (w.setCell ⟨b, j, none⟩ v) (some b) :=
  ⟨rfl, rfl, rfl, by simp [World.setCell], fun k hk hne => Below.heap_setCell w _ _ k (fun e => hne (by rw [e]))⟩
theorem grown_drewN (w : World) (n : Nat) (row : Option Nat) : w.grownBy (w.drewN n) row := ⟨rfl, rfl, rfl, Nat.le_refl _, fun _ _ _ => rfl⟩
/-- The cells of a known block. -/
theorem cell_of {w : World} {g t : Nat} {cs : Array Value} {fr : Nat × Nat} (h : w.heap[g]? = some (.cells cs t fr)) (j : Nat) : w.cell? ⟨g, j, none⟩ = cs[j]? := by simp [World.cell?, h]
theorem free_of {w : World} {g t : Nat} {cs : Array Value} (h : w.heap[g]? = some (.cells cs t (0, 0))) (j : Nat) : w.frozen? ⟨g, j, none⟩ = false := by simp [World.frozen?, h]
theorem lt_of_block {w : World} {g : Nat} {o : Obj} (h : w.heap[g]? = some o) : g < w.heap.size := (Array.getElem?_eq_some_iff.1 h).1
theorem heap_alloc {w : World} {g : Nat} {o : Obj} (h : w.heap[g]? = some o) (o' : Obj) : (w.alloc o').heap[g]? = some o := (Below.heap_alloc w o' g (lt_of_block h)).trans h
/-- A block of four cells, for the walk: each cell, none frozen; in the world as it stands and behind one new block. -/
theorem four_cells {w : World} {g t : Nat} {a b c d : Value} (h : w.heap[g]? = some (.cells #[a, b, c, d] t (0, 0))) :
    w.cell? ⟨g, 0, none⟩ = some a ∧ w.cell? ⟨g, 1, none⟩ = some b ∧ w.cell? ⟨g, 2, none⟩ = some c ∧ w.cell? ⟨g, 3, none⟩ = some d :=
  ⟨cell_of h 0, cell_of h 1, cell_of h 2, cell_of h 3⟩
theorem four_free {w : World} {g t : Nat} {a b c d : Value} (h : w.heap[g]? = some (.cells #[a, b, c, d] t (0, 0))) :
    w.frozen? ⟨g, 0, none⟩ = false ∧ w.frozen? ⟨g, 1, none⟩ = false ∧ w.frozen? ⟨g, 2, none⟩ = false ∧ w.frozen? ⟨g, 3, none⟩ = false :=
  ⟨free_of h 0, free_of h 1, free_of h 2, free_of h 3⟩
/-- What was written besides lies beyond what there was. -/
theorem grown_new {w w1 w2 : World} {b g : Nat} (h : w.grownBy w1 (some b)) (h' : w1.grownBy w2 (some g)) (hg : w.heap.size ≤ g) : w.grownBy w2 (some b) :=
  ⟨h'.os.trans h.os, h'.tape.trans h.tape, h'.output.trans h.output, Nat.le_trans h.size h'.size, fun k hk hne =>
    (h'.block k (Nat.lt_of_lt_of_le hk h.size) (fun e => by injection e with e; omega)).trans (h.block k hk hne)⟩
/-- A store into another block. -/
theorem Cu.far {w : World} {b k : Nat} {s : ByteArray} (h : Cu w b s k) {g : Nat} (hne : b ≠ g) (j : Nat) (v : Value) : Cu (w.setCell ⟨g, j, none⟩ v) b s k :=
  (Below.heap_setCell w ⟨g, j, none⟩ v b hne).trans h
theorem byte_at (s : ByteArray) (k : Nat) (h : k < s.size) : s.data.toList.drop k = s[k] :: s.data.toList.drop (k + 1) := by
  rw [List.drop_eq_getElem_cons (by simpa using h)]
  rfl
theorem take_grow (s : ByteArray) (k m : Nat) (hkm : k ≤ m) (h : m < s.size) : (s.data.toList.drop k).take (m + 1 - k) = (s.data.toList.drop k).take (m - k) ++ [s[m]] := by
  have hl : m - k < (s.data.toList.drop k).length := by
    rw [List.length_drop, Array.length_toList]
    have : s.data.size = s.size := rfl
    omega
  rw [show m + 1 - k = (m - k) + 1 from by omega, List.take_succ_eq_append_getElem hl]
  congr 2
  rw [List.getElem_drop]
  show s.data.toList[k + (m - k)]'_ = s.data.toList[m]'_
  congr 1
  omega
theorem tail_data (s : ByteArray) (k : Nat) : (s.extract k s.size).data.toList = s.data.toList.drop k := by
  rw [Lib.extract_data, List.take_of_length_le (by simp)]
theorem u8_eq (c : UInt8) (n : Nat) (h : n < 256) : c.toNat = n ↔ c = UInt8.ofNat n := by
  constructor
  · intro e
    apply UInt8.toNat_inj.1
    rw [e]
    simp [Nat.mod_eq_of_lt h]
  · intro e
    rw [e]
    simp [Nat.mod_eq_of_lt h]
theorem remark_at (s : ByteArray) (k : Nat) (h : k < s.size) : Lib.hasPrefix (s.extract k s.size).data.toList [47, 47] = (s[k].toNat == 47 && (s.data.toList.drop (k + 1)).head? == some 47) := by
  rw [tail_data, byte_at s k h, Bool.eq_iff_iff]
  have e : ∀ c : UInt8, c.toNat = 47 ↔ c = 47 := fun c => u8_eq c 47 (by decide)
  cases s.data.toList.drop (k + 1) with
  | nil => simp [Lib.hasPrefix, List.isPrefixOf]
  | cons c t =>
    simp only [Lib.hasPrefix, List.isPrefixOf, Bool.and_eq_true, beq_iff_eq, List.head?_cons, Option.some.injEq, e]
    constructor
    · rintro ⟨a, b, -⟩
      exact ⟨a.symm, b.symm⟩
    · rintro ⟨a, b⟩
      exact ⟨a.symm, b.symm, trivial⟩
theorem len_size (s : ByteArray) : s.data.toList.length = s.size := by rw [Array.length_toList]; rfl

end Go.Proofs.YtbhdkkkaeabkhaaGreatDoor
