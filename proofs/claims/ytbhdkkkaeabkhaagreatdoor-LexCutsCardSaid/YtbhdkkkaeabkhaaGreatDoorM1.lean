/-
  Chapter 1 in plain Lean: what lex computes, over lists of bytes. No program in sight.
  Chapter 1 in plain Lean: what the walks of package lex ask of the plain functions. No program in sight.
  The walks of package lex's functions of one byte.
  A cutter in memory: its one block; what the walks of package lex ask of the world.
  The walks of begins, wrong and Words; the package-level variables that are read.
  The package-level variables that are read on these roads: what is known of them, and that it stays.
  The walk of (*cutter).skip.
-/
import Derived.Test.YtbhdkkkaeabkhaaGreatDoorProg
import Derived.WalkKit
import Derived.WalkLawsBesides
import Derived.WalkSpells
import Derived.Deep.QuietTactic
import Derived.BigQuiet
import Derived.Deep.LoopGhost
import Derived.Lib.Strings
import Derived.Test.YtbhdkkkaeabkhaaGreatDoorShelf
import Derived.Lib.IndexLaws
namespace Go.Proofs.YtbhdkkkaeabkhaaGreatDoor.Lx

abbrev Bytes := List UInt8

structure Tok where
  pos : Int
  kind : Int
  s : Bytes
  n : Int
  deriving DecidableEq, Inhabited

def small (c : UInt8) : Bool := 97 ≤ c.toNat && c.toNat ≤ 122
def great (c : UInt8) : Bool := 65 ≤ c.toNat && c.toNat ≤ 90
def digit (c : UInt8) : Bool := 48 ≤ c.toNat && c.toNat ≤ 57
def letter (c : UInt8) : Bool := small c || great c
def within (c : UInt8) : Bool := letter c || digit c || c.toNat == 95
def blank (c : UInt8) : Bool := c.toNat == 9 || c.toNat == 10 || c.toNat == 13 || c.toNat == 32
/-- '(){};:,.=<+-*' -/
def signs : Bytes := [40, 41, 123, 125, 59, 58, 44, 46, 61, 60, 43, 45, 42]
def begins (c : UInt8) : Bool := letter c || digit c || c.toNat == 34 || signs.contains c

def words : List Bytes := [
  [116, 121, 112, 101], [109, 101, 116, 104, 111, 100], [102, 117, 110, 99], [109, 97, 105, 110], [105, 110, 116, 101, 114, 102, 97, 99, 101],
  [101, 109, 98, 101, 100], [105, 110, 116], [98, 111, 111, 108], [116, 101, 120, 116], [102, 110], [108, 101, 116], [112, 114, 105, 110, 116],
  [105, 102], [101, 108, 115, 101], [119, 104, 105, 108, 101], [114, 101, 116, 117, 114, 110], [110, 105, 108], [110, 101, 119], [116, 111],
  [97, 110, 100], [111, 114], [110, 111, 116], [116, 114, 117, 101], [102, 97, 108, 115, 101], [115, 101, 108, 102]]

/-- What is left behind blanks and remarks; 'true': within a remark. -/
def skip : Bool → Bytes → Bytes
  | _, [] => []
  | false, c :: t => if blank c then skip false t else if c.toNat == 47 && t.head? == some 47 then skip true t else c :: t
  | true, c :: t => if c.toNat == 10 then skip false t else skip true t

def value (l : Bytes) : Nat := l.foldl (fun v c => v * 10 + (c.toNat - 48)) 0

inductive Res where
  | bad (why at_ : Nat)
  | ok (t : Tok) (len : Nat)
  deriving DecidableEq, Inhabited

def nameKind (n : Bytes) : Nat := if words.contains n then 3 else if (n.head?.map great).getD false then 2 else 1

def cutName (p : Nat) (l : Bytes) : Res :=
  let n := l.takeWhile within
  if 32 < n.length then .bad 2 (p + 32) else .ok ⟨p, nameKind n, n, 0⟩ n.length

def cutNumber (p : Nat) (l : Bytes) : Res :=
  let d := l.takeWhile digit
  if 9223372036854775807 < value d || (l.head? == some 48 && 1 < d.length) || ((l.drop d.length).head?.map within).getD false then .bad 11 p
  else .ok ⟨p, 4, [], value d⟩ d.length

/-- Behind the first quote. -/
def quoted (p : Nat) : Bytes → Bytes → Nat → Res
  | [], _, k => .bad 12 (p + k)
  | 34 :: _, acc, k => .ok ⟨p, 5, acc, 0⟩ (k + 1)
  | 92 :: [], _, k => .bad 12 (p + k + 1)
  | 92 :: c :: t, acc, k => if c.toNat == 110 then quoted p t (acc ++ [10]) (k + 2) else if c.toNat == 34 || c.toNat == 92 then quoted p t (acc ++ [c]) (k + 2) else .bad 12 (p + k + 1)
  | c :: t, acc, k => if c.toNat < 32 || 126 < c.toNat then .bad 12 (p + k) else quoted p t (acc ++ [c]) (k + 1)

def cut (p : Nat) (l : Bytes) : Res :=
  match l with
  | [] => .bad 0 p
  | b :: t =>
    if letter b then cutName p l
    else if digit b then cutNumber p l
    else if b.toNat == 34 then quoted p t [] 1
    else if b.toNat == 61 && t.head? == some 61 then .ok ⟨p, 6, [61, 61], 0⟩ 2
    else .ok ⟨p, 6, [b], 0⟩ 1

/-- The tokens from a place on, 'i' having been cut; (why, where): how it goes wrong. -/
def go : Nat → Nat → Nat → Bytes → List Tok × Option (Nat × Nat)
  | 0, _, _, _ => ([], none)
  | f + 1, p, i, l =>
    let r := skip false l
    let q := p + (l.length - r.length)
    match r with
    | [] => ([], none)
    | b :: _ =>
      if !begins b then ([], some (10, q))
      else if i == 4096 then ([], some (3, q))
      else match cut q r with
        | .bad why x => ([], some (why, x))
        | .ok t n => let z := go f (q + n) (i + 1) (r.drop n); (t :: z.1, z.2)

def toks (src : Bytes) : List Tok × Option (Nat × Nat) :=
  if 65536 < src.length then ([], some (2, 0)) else go (src.length + 1) 0 0 src

/-- A text as a token writes it. -/
def quoteIn : Bytes → Bytes
  | [] => []
  | c :: t => (if c.toNat == 10 then [92, 110] else if c.toNat == 34 || c.toNat == 92 then [92, c] else [c]) ++ quoteIn t
def quote (s : Bytes) : Bytes := 34 :: (quoteIn s ++ [34])

end Go.Proofs.YtbhdkkkaeabkhaaGreatDoor.Lx

namespace Go.Proofs.YtbhdkkkaeabkhaaGreatDoor.Lx

/-! ### lists -/
theorem drop_cons_of_lt {l : Bytes} {k : Nat} (h : k < l.length) : l.drop k = l[k] :: l.drop (k + 1) := List.drop_eq_getElem_cons h

theorem skip_le : ∀ (m : Bool) (l : Bytes), (skip m l).length ≤ l.length
  | _, [] => by simp [skip]
  | false, c :: t => by
    unfold skip
    split
    · have := skip_le false t; simp; omega
    · split
      · have := skip_le true t; simp; omega
      · simp
  | true, c :: t => by
    unfold skip
    split
    · have := skip_le false t; simp; omega
    · have := skip_le true t; simp; omega

theorem skip_blank {c : UInt8} {t : Bytes} (h : blank c = true) : skip false (c :: t) = skip false t := by simp [skip, h]
theorem skip_remark {c : UInt8} {t : Bytes} (h : blank c = false) (h1 : c.toNat = 47) (h2 : t.head? = some 47) : skip false (c :: t) = skip true t := by simp [skip, h, h1, h2]
theorem skip_stays {c : UInt8} {t : Bytes} (h : blank c = false) (h1 : ¬ (c.toNat = 47 ∧ t.head? = some 47)) : skip false (c :: t) = c :: t := by
  unfold skip
  rw [if_neg (by simp [h]), if_neg (by simpa using h1)]
theorem skip_within {c : UInt8} {t : Bytes} (h : c.toNat ≠ 10) : skip true (c :: t) = skip true t := by simp [skip, h]
theorem skip_out {c : UInt8} {t : Bytes} (h : c.toNat = 10) : skip true (c :: t) = skip false (c :: t) := by
  have hb : blank c = true := by simp [blank, h]
  simp [skip, h, hb]
theorem skip_end (m : Bool) : skip m [] = [] := by cases m <;> simp [skip]

end Go.Proofs.YtbhdkkkaeabkhaaGreatDoor.Lx

namespace Go.Proofs.YtbhdkkkaeabkhaaGreatDoor
open Go.RowKit

set_option maxHeartbeats 400000

theorem ret_bool {x y : Bool} (h : x = y) : Ending.returned (.bool x) = .returned (.bool y) := by rw [h]

theorem lexSmall (b : UInt8) (w : World) : Calls Tryz.prog 99 #[.int .u8 (b.toNat : Int)] w fun e w' => e = .returned (.bool (Lx.small b)) ∧ w = w' := by
  go_enter Tryz.func99, Tryz.ntmps99
  go_wp2
  all_goals
    go_ret
    refine ⟨ret_bool ?_, rfl⟩
    rw [Bool.eq_iff_iff]
    simp [Lx.small]
    omega

theorem lexGreat (b : UInt8) (w : World) : Calls Tryz.prog 100 #[.int .u8 (b.toNat : Int)] w fun e w' => e = .returned (.bool (Lx.great b)) ∧ w = w' := by
  go_enter Tryz.func100, Tryz.ntmps100
  go_wp2
  all_goals
    go_ret
    refine ⟨ret_bool ?_, rfl⟩
    rw [Bool.eq_iff_iff]
    simp [Lx.great]
    omega

theorem lexDigit (b : UInt8) (w : World) : Calls Tryz.prog 85 #[.int .u8 (b.toNat : Int)] w fun e w' => e = .returned (.bool (Lx.digit b)) ∧ w = w' := by
  go_enter Tryz.func85, Tryz.ntmps85
  go_wp2
  all_goals
    go_ret
    refine ⟨ret_bool ?_, rfl⟩
    rw [Bool.eq_iff_iff]
    simp [Lx.digit]
    omega

theorem lexBlank (b : UInt8) (w : World) : Calls Tryz.prog 82 #[.int .u8 (b.toNat : Int)] w fun e w' => e = .returned (.bool (Lx.blank b)) ∧ w = w' := by
  go_enter Tryz.func82, Tryz.ntmps82
  go_wp2
  all_goals
    go_ret
    refine ⟨ret_bool ?_, rfl⟩
    rw [Bool.eq_iff_iff]
    simp [Lx.blank]
    omega

theorem lexLetter (b : UInt8) (w : World) : Calls Tryz.prog 84 #[.int .u8 (b.toNat : Int)] w fun e w' => e = .returned (.bool (Lx.letter b)) ∧ w = w' := by
  go_enter Tryz.func84, Tryz.ntmps84
  go_wp2_with (first | (go_at_call 99; refine (lexSmall _ _).mono ?_; rintro e w' ⟨rfl, rfl⟩) | (go_at_call 100; refine (lexGreat _ _).mono ?_; rintro e w' ⟨rfl, rfl⟩))
  all_goals
    go_ret
    refine ⟨ret_bool ?_, rfl⟩
    simp [Lx.letter, *]

theorem lexWithin (b : UInt8) (w : World) : Calls Tryz.prog 102 #[.int .u8 (b.toNat : Int)] w fun e w' => e = .returned (.bool (Lx.within b)) ∧ w = w' := by
  go_enter Tryz.func102, Tryz.ntmps102
  go_wp2_with (first | (go_at_call 84; refine (lexLetter _ _).mono ?_; rintro e w' ⟨rfl, rfl⟩) | (go_at_call 85; refine (lexDigit _ _).mono ?_; rintro e w' ⟨rfl, rfl⟩))
  all_goals
    go_ret
    refine ⟨ret_bool ?_, rfl⟩
    rw [Bool.eq_iff_iff]
    simp [Lx.within, *]
    try omega

end Go.Proofs.YtbhdkkkaeabkhaaGreatDoor

namespace Go.Proofs.YtbhdkkkaeabkhaaGreatDoor
open Go.RowKit

/-- A callee that leaves the world alone, met in a region that draws. -/
theorem quiet_eq {P : Program} {f : FuncId} {args : Array Value} {w : World} {n : Nat} {v : Value}
    (h : Calls P f args (w.drewN n) fun e w' => e = .returned v ∧ w.drewN n = w') : Calls P f args (w.drewN n) fun e w'' => e = .returned v ∧ ∃ m, w'' = w.drewN m :=
  h.mono fun _ _ ⟨he, hm⟩ => ⟨he, n, hm.symm⟩

/-- .. behind draws. -/
theorem quiet_eq2 {P : Program} {f : FuncId} {args : Array Value} {w : World} {a n : Nat} {v : Value}
    (h : Calls P f args (w.drewN (a + n)) fun e w' => e = .returned v ∧ w.drewN (a + n) = w') :
    Calls P f args (w.drewN (a + n)) fun e w'' => e = .returned v ∧ ∃ m, w'' = w.drewN (a + m) :=
  h.mono fun _ _ ⟨he, hm⟩ => ⟨he, n, hm.symm⟩
theorem quiet_back {P : Program} {f : FuncId} {args : Array Value} {w : World} {n : Nat} {v : Value}
    (h : Calls P f args (w.drewN n) fun e w' => e = .returned v ∧ w' = w.drewN n) : Calls P f args (w.drewN n) fun e w'' => e = .returned v ∧ ∃ m, w'' = w.drewN m :=
  h.mono fun _ _ ⟨he, hm⟩ => ⟨he, n, hm⟩
theorem quiet_back2 {P : Program} {f : FuncId} {args : Array Value} {w : World} {a n : Nat} {v : Value}
    (h : Calls P f args (w.drewN (a + n)) fun e w' => e = .returned v ∧ w' = w.drewN (a + n)) :
    Calls P f args (w.drewN (a + n)) fun e w'' => e = .returned v ∧ ∃ m, w'' = w.drewN (a + m) :=
  h.mono fun _ _ ⟨he, hm⟩ => ⟨he, n, hm⟩

/-- The cutter's block. -/
def Cu (w : World) (b : Nat) (s : ByteArray) (k : Nat) : Prop := w.heap[b]? = some (.cells #[.string s, .int .i64 (k : Int)] 102 (0, 0))

section
variable {w w' : World} {b : Nat} {s : ByteArray} {k : Nat}
theorem Cu.c0 (h : Cu w b s k) : w.cell? ⟨b, 0, none⟩ = some (.string s) := by simp [World.cell?, show w.heap[b]? = _ from h]
theorem Cu.c1 (h : Cu w b s k) : w.cell? ⟨b, 1, none⟩ = some (.int .i64 (k : Int)) := by simp [World.cell?, show w.heap[b]? = _ from h]
theorem Cu.f1 (h : Cu w b s k) : w.frozen? ⟨b, 1, none⟩ = false := by simp [World.frozen?, show w.heap[b]? = _ from h]
theorem Cu.lt (h : Cu w b s k) : b < w.heap.size := (Array.getElem?_eq_some_iff.1 h).1
theorem Cu.set (h : Cu w b s k) (j : Int) (m : Nat) (hj : j = (m : Int)) : Cu (w.setCell ⟨b, 1, none⟩ (.int .i64 j)) b s m := by
  subst hj
  simp [Cu, World.setCell, Array.getElem?_modify, show w.heap[b]? = _ from h]
theorem Cu.drewN (h : Cu w b s k) (n : Nat) : Cu (w.drewN n) b s k := h
theorem Cu.alloc (h : Cu w b s k) (o : Obj) : Cu (w.alloc o) b s k := (Below.heap_alloc w o b h.lt).trans h
theorem Cu.kept (h : Cu w b s k) {row : Option Nat} (hg : w.grownBy w' row) (hr : some b ≠ row) : Cu w' b s k := (hg.block b h.lt hr).trans h
end

theorem grown_set (w : World) (b j : Nat) (v : Value) : w.grownBy (w.setCell ⟨b, j, none⟩ v) (some b) :=
  ⟨rfl, rfl, rfl, by simp [World.setCell], fun k hk hne => Below.heap_setCell w _ _ k (fun e => hne (by rw [e]))⟩
theorem grown_drewN (w : World) (n : Nat) (row : Option Nat) : w.grownBy (w.drewN n) row := ⟨rfl, rfl, rfl, Nat.le_refl _, fun _ _ _ => rfl⟩
/-- The cells of a known block. -/
theorem cell_of {w : World} {g t : Nat} {cs : Array Value} {fr : Nat × Nat} (h : w.heap[g]? = some (.cells cs t fr)) (j : Nat) : w.cell? ⟨g, j, none⟩ = cs[j]? := by simp [World.cell?, h]
theorem free_of {w : World} {g t : Nat} {cs : Array Value} (h : w.heap[g]? = some (.cells cs t (0, 0))) (j : Nat) : w.frozen? ⟨g, j, none⟩ = false := by simp [World.frozen?, h]
theorem lt_of_block {w : World} {g : Nat} {o : Obj} (h : w.heap[g]? = some o) : g < w.heap.size := (Array.getElem?_eq_some_iff.1 h).1
theorem heap_alloc {w : World} {g : Nat} {o : Obj} (h : w.heap[g]? = some o) (o' : Obj) : (w.alloc o').heap[g]? = some o := (Below.heap_alloc w o' g (lt_of_block h)).trans h
/-- A block of four cells, for the walk: each cell, none frozen; in the world as it stands and behind one new block. -/
theorem four_cells {w : World} {g t : Nat} {a b c d : Value} (h : w.heap[g]? = some (.cells #[a, b, c, d] t (0, 0))) :
    w.cell? ⟨g, 0, none⟩ = some a ∧ w.cell? ⟨g, 1, none⟩ = some b ∧ w.cell? ⟨g, 2, none⟩ = some c ∧ w.cell? ⟨g, 3, none⟩ = some d :=
  ⟨cell_of h 0, cell_of h 1, cell_of h 2, cell_of h 3⟩
theorem four_free {w : World} {g t : Nat} {a b c d : Value} (h : w.heap[g]? = some (.cells #[a, b, c, d] t (0, 0))) :
    w.frozen? ⟨g, 0, none⟩ = false ∧ w.frozen? ⟨g, 1, none⟩ = false ∧ w.frozen? ⟨g, 2, none⟩ = false ∧ w.frozen? ⟨g, 3, none⟩ = false :=
  ⟨free_of h 0, free_of h 1, free_of h 2, free_of h 3⟩
/-- What was written besides lies beyond what there was. -/
theorem grown_new {w w1 w2 : World} {b g : Nat} (h : w.grownBy w1 (some b)) (h' : w1.grownBy w2 (some g)) (hg : w.heap.size ≤ g) : w.grownBy w2 (some b) :=
  ⟨h'.os.trans h.os, h'.tape.trans h.tape, h'.output.trans h.output, Nat.le_trans h.size h'.size, fun k hk hne =>
    (h'.block k (Nat.lt_of_lt_of_le hk h.size) (fun e => by injection e with e; omega)).trans (h.block k hk hne)⟩
/-- A store into another block. -/
theorem Cu.far {w : World} {b k : Nat} {s : ByteArray} (h : Cu w b s k) {g : Nat} (hne : b ≠ g) (j : Nat) (v : Value) : Cu (w.setCell ⟨g, j, none⟩ v) b s k :=
  (Below.heap_setCell w ⟨g, j, none⟩ v b hne).trans h
theorem byte_at (s : ByteArray) (k : Nat) (h : k < s.size) : s.data.toList.drop k = s[k] :: s.data.toList.drop (k + 1) := by
  rw [List.drop_eq_getElem_cons (by simpa using h)]
  rfl
theorem take_grow (s : ByteArray) (k m : Nat) (hkm : k ≤ m) (h : m < s.size) : (s.data.toList.drop k).take (m + 1 - k) = (s.data.toList.drop k).take (m - k) ++ [s[m]] := by
  have hl : m - k < (s.data.toList.drop k).length := by
    rw [List.length_drop, Array.length_toList]
    have : s.data.size = s.size := rfl
    omega
  rw [show m + 1 - k = (m - k) + 1 from by omega, List.take_succ_eq_append_getElem hl]
  congr 2
  rw [List.getElem_drop]
  show s.data.toList[k + (m - k)]'_ = s.data.toList[m]'_
  congr 1
  omega
theorem tail_data (s : ByteArray) (k : Nat) : (s.extract k s.size).data.toList = s.data.toList.drop k := by
  rw [Lib.extract_data, List.take_of_length_le (by simp)]
theorem u8_eq (c : UInt8) (n : Nat) (h : n < 256) : c.toNat = n ↔ c = UInt8.ofNat n := by
  constructor
  · intro e
    apply UInt8.toNat_inj.1
    rw [e]
    simp [Nat.mod_eq_of_lt h]
  · intro e
    rw [e]
    simp [Nat.mod_eq_of_lt h]
theorem remark_at (s : ByteArray) (k : Nat) (h : k < s.size) : Lib.hasPrefix (s.extract k s.size).data.toList [47, 47] = (s[k].toNat == 47 && (s.data.toList.drop (k + 1)).head? == some 47) := by
  rw [tail_data, byte_at s k h, Bool.eq_iff_iff]
  have e : ∀ c : UInt8, c.toNat = 47 ↔ c = 47 := fun c => u8_eq c 47 (by decide)
  cases s.data.toList.drop (k + 1) with
  | nil => simp [Lib.hasPrefix, List.isPrefixOf]
  | cons c t =>
    simp only [Lib.hasPrefix, List.isPrefixOf, Bool.and_eq_true, beq_iff_eq, List.head?_cons, Option.some.injEq, e]
    constructor
    · rintro ⟨a, b, -⟩
      exact ⟨a.symm, b.symm⟩
    · rintro ⟨a, b⟩
      exact ⟨a.symm, b.symm, trivial⟩
theorem len_size (s : ByteArray) : s.data.toList.length = s.size := by rw [Array.length_toList]; rfl

end Go.Proofs.YtbhdkkkaeabkhaaGreatDoor

namespace Go.Proofs.YtbhdkkkaeabkhaaGreatDoor
open Go.RowKit
set_option linter.unusedSimpArgs false
set_option linter.unusedVariables false

theorem idx_begins (l : List UInt8) (c : UInt8) : decide (0 ≤ Lib.indexByte l c) = l.contains c := by
  have hge := Lib.indexByte_ge l c
  rw [Bool.eq_iff_iff]
  simp only [decide_eq_true_eq, List.contains_iff_mem]
  by_cases h : Lib.indexByte l c = -1
  · constructor
    · intro; omega
    · intro hm
      obtain ⟨k, hk, e⟩ := List.getElem_of_mem hm
      exact absurd (by rw [List.getElem?_eq_getElem hk, e]) (Lib.indexByte_none h k)
  · constructor
    · intro h0
      obtain ⟨o, ho⟩ := Int.eq_ofNat_of_zero_le h0
      exact List.mem_of_getElem? (Lib.indexByte_some ho).1
    · intro; omega

theorem lexBegins (b : UInt8) (w : World) : Calls Tryz.prog 58 #[.int .u8 (b.toNat : Int)] w fun e w' => e = .returned (.bool (Lx.begins b)) ∧ w = w' := by
  have hx := idx_begins Lx.signs b
  go_enter Tryz.func58, Tryz.ntmps58
  go_wp2_with (first | (go_at_call 84; refine (lexLetter _ _).mono ?_; rintro e w' ⟨rfl, rfl⟩) | (go_at_call 85; refine (lexDigit _ _).mono ?_; rintro e w' ⟨rfl, rfl⟩) | (go_at_call 86; refine (Tryz.strings_IndexByte _ _ _).mono ?_; rintro e w' ⟨rfl, rfl⟩))
  all_goals
    go_ret
    refine ⟨ret_bool ?_, rfl⟩
  · simp [Lx.begins, *]
  · simp [Lx.begins, *]
  · have e : b.toNat = 34 := by omega
    simp [Lx.begins, e]
  · have e : (b.toNat == 34) = false := by simp; omega
    have e2 : ((b.toNat : Int) == 34) = false := by simp; omega
    change ((b.toNat : Int) == 34 || decide (0 ≤ Lib.indexByte Lx.signs b)) = _
    rw [hx, e2]
    simp [Lx.begins, *]

/-- A refusal in memory. -/
def IsRef (w : World) (g : Nat) (p y : Int) : Prop := w.heap[g]? = some (.cells #[.int .i64 p, .int .i64 y] 81 (0, 0))

theorem lexWrong (p y : Int) (w : World) : Calls Tryz.prog 56 #[.int .i64 p, .int .i64 y] w fun e w' =>
    e = .returned (.pointer (some ⟨w.heap.size, 0, none⟩)) ∧ w' = w.alloc (.cells #[.int .i64 p, .int .i64 y] 81) := by
  go_enter Tryz.func56, Tryz.ntmps56
  go_wp2
  go_ret
  exact ⟨rfl, rfl⟩

/-- The cells of the language's words. -/
def wordCells : Array Value := (Lx.words.map fun l => Value.string ⟨l.toArray⟩).toArray

def wordText : ByteArray := { data := ([116, 121, 112, 101, 32, 109, 101, 116, 104, 111, 100, 32, 102, 117, 110, 99, 32, 109, 97, 105, 110, 32, 105, 110, 116, 101, 114, 102, 97, 99, 101, 32, 101, 109, 98, 101, 100, 32, 105, 110, 116, 32, 98, 111, 111, 108, 32, 116, 101, 120, 116, 32, 102, 110, 32, 108, 101, 116, 32, 112, 114].append [105, 110, 116, 32, 105, 102, 32, 101, 108, 115, 101, 32, 119, 104, 105, 108, 101, 32, 114, 101, 116, 117, 114, 110, 32, 110, 105, 108, 32, 110, 101, 119, 32, 116, 111, 32, 97, 110, 100, 32, 111, 114, 32, 110, 111, 116, 32, 116, 114, 117, 101, 32, 102, 97, 108, 115, 101, 32, 115, 101, 108, 102]).toArray }
theorem wordText_size : wordText.size < 4294967281 := by decide +kernel
theorem wordText_all : wordText.data.toList.all (fun b => decide (b.toNat < 128)) = true := by decide +kernel
theorem wordText_ascii (j : Nat) (b : UInt8) (h : wordText.data.toList[j]? = some b) : b.toNat < 128 :=
  of_decide_eq_true (List.all_eq_true.1 wordText_all b (List.mem_of_getElem? h))
theorem wordText_fields : Lib.fields wordText.data.toList = Lx.words := by decide +kernel

theorem lexWords (w : World) (htab : Lib.TabIs Tryz.prog w "strings.asciiSpace" .u8 Lib.asciiSpaceTab) : Calls Tryz.prog 20 #[] w fun e w' =>
    e = .returned (.slice (some ⟨w.heap.size, 0, none⟩) 25 25) ∧ w' = w.alloc (.cells wordCells 9) := by
  go_enter Tryz.func20, Tryz.ntmps20
  go_wp2_with (go_at_call 49; refine (Tryz.strings_Fields wordText _ wordText_size wordText_ascii htab).mono ?_; rw [wordText_fields]; rintro e w' ⟨rfl, rfl⟩)
  go_ret
  exact ⟨rfl, rfl⟩

end Go.Proofs.YtbhdkkkaeabkhaaGreatDoor

namespace Go.Proofs.YtbhdkkkaeabkhaaGreatDoor
open Go.RowKit
set_option linter.unusedSimpArgs false
set_option linter.unusedVariables false

theorem gAsc : Tryz.prog.globalNamed "strings.asciiSpace" = some 1 := by kernel_rfl
theorem gPow : Tryz.prog.globalNamed "internal/strconv.uint64pow10" = some 4 := by kernel_rfl

/-- An error in a variable. -/
def ErrCell (w : World) (g : Nat) : Prop := ∃ ev, w.cell? ⟨g, 0, none⟩ = some ev ∧ (ev = .nilIface ∨ ∃ te pe, ev = .iface te pe)

structure GS (w : World) : Prop where
  asc : Lib.TabIs Tryz.prog w "strings.asciiSpace" .u8 Lib.asciiSpaceTab
  pow : Lib.TabIs Tryz.prog w "internal/strconv.uint64pow10" .u64 Lib.pow10Tab
  syn : ErrCell w 5
  rng : ErrCell w 6

/-- One more than the greatest number of a variable. -/
def NG : Nat := 1 + max (max 1 4) (max (max 5 6) 0)

theorem lt_of_var {w : World} {n : String} {g : Nat} {cs : Array Value} (hg : Tryz.prog.globalNamed n = some g) (h : w.var? Tryz.prog n = some cs) : g < w.heap.size := by
  unfold World.var? at h
  rw [hg] at h
  simp only [Option.bind_some] at h
  rcases Nat.lt_or_ge g w.heap.size with h1 | h1
  · exact h1
  · rw [Array.getElem?_eq_none h1] at h
    cases h
theorem lt_of_cell0 {w : World} {g : Nat} {v : Value} (h : w.cell? ⟨g, 0, none⟩ = some v) : g < w.heap.size := World.block_lt_of_cell? w ⟨g, 0, none⟩ h

theorem GS.of_heap {w w' : World} (h : GS w) (hk : ∀ k, k < NG → k < w.heap.size → w'.heap[k]? = w.heap[k]?) : GS w' := by
  have ha := lt_of_var gAsc h.asc
  have hp := lt_of_var gPow h.pow
  obtain ⟨e1, h1, h1'⟩ := h.syn
  obtain ⟨e2, h2, h2'⟩ := h.rng
  have hs := lt_of_cell0 h1
  have hr := lt_of_cell0 h2
  refine ⟨?_, ?_, ⟨e1, ?_, h1'⟩, ⟨e2, ?_, h2'⟩⟩
  · have := h.asc
    unfold Lib.TabIs World.var? at this ⊢
    rw [gAsc] at this ⊢
    simp only [Option.bind_some] at this ⊢
    rw [hk _ (by decide) ha]
    exact this
  · have := h.pow
    unfold Lib.TabIs World.var? at this ⊢
    rw [gPow] at this ⊢
    simp only [Option.bind_some] at this ⊢
    rw [hk _ (by decide) hp]
    exact this
  · rw [← h1]; exact World.cell?_of_block (hk _ (by decide) hs)
  · rw [← h2]; exact World.cell?_of_block (hk _ (by decide) hr)
theorem GS.below {w w' : World} (h : GS w) (hb : Below w.heap.size w w') : GS w' := h.of_heap fun k _ hk => hb.block k hk
theorem GS.grown {w w' : World} {b : Nat} (h : GS w) (hg : w.grownBy w' (some b)) (hb : NG ≤ b) : GS w' := h.of_heap fun k hn hk => hg.block k hk (fun e => by injection e with e; omega)
theorem GS.alloc {w : World} (h : GS w) (o : Obj) : GS (w.alloc o) := h.of_heap fun k _ hk => Below.heap_alloc w o k hk
theorem GS.drewN {w : World} (h : GS w) (n : Nat) : GS (w.drewN n) := h.of_heap fun _ _ _ => rfl

end Go.Proofs.YtbhdkkkaeabkhaaGreatDoor

namespace Go.Proofs.YtbhdkkkaeabkhaaGreatDoor
open Go.RowKit

/-- Where skip leaves the cutter. -/
def skipAt (s : ByteArray) (k : Nat) : Nat := s.size - (Lx.skip false (s.data.toList.drop k)).length

theorem skipAt_of {s : ByteArray} {k m : Nat} (h : Lx.skip false (s.data.toList.drop k) = s.data.toList.drop m) (hm : m ≤ s.size) : skipAt s k = m := by
  unfold skipAt
  rw [h, List.length_drop, len_size]
  omega

set_option maxHeartbeats 1000000 in
theorem lexSkip (s : ByteArray) (b k : Nat) (w : World) (hc : Cu w b s k) (hk : k ≤ s.size) (hs : s.size ≤ 140737488351232) :
    Calls Tryz.prog 57 #[.pointer (some ⟨b, 0, none⟩)] w fun e w' => e = .returned (.tuple #[]) ∧ Cu w' b s (skipAt s k) ∧ w.grownBy w' (some b) := by
  go_enter Tryz.func57, Tryz.ntmps57
  go_wp2
  go_loopg [] (s.size - k) (fun n wr => ∃ m : Nat, n = s.size - m ∧ m ≤ s.size ∧ Cu wr b s m ∧ w.grownBy wr (some b) ∧ Lx.skip false (s.data.toList.drop m) = Lx.skip false (s.data.toList.drop k))
  case atStart => exact ⟨k, rfl, hk, hc, World.grownBy.refl _ _, rfl⟩
  case round =>
    obtain ⟨m, hn, hm, hcm, hg, he⟩ := hrel
    obtain ⟨g0, rfl⟩ : ∃ g0, g0 = gk := ⟨_, rfl⟩
    obtain ⟨wo, rfl⟩ : ∃ wo : World, wo = wr := ⟨_, rfl⟩
    have hc0 := hcm.c0
    have hc1 := hcm.c1
    have hf1 := hcm.f1
    have HE : Hid (Lx.skip false (s.data.toList.drop m) = Lx.skip false (s.data.toList.drop k)) := he
    have HN : Hid (g0 = s.size - m) := hn
    have HC := Lib.hid hcm
    clear he hn hcm
    go_wp2
    go_quiet (fail)
    by_cases hlt : m < s.size
    · have hi : (m : Int) < (s.size : Int) := by omega
      have hi0 : (0 : Int) ≤ (m : Int) := by omega
      go_wp2
      go_quiet ((go_at_call 82; exact quiet_eq2 (lexBlank _ _)))
      have HD0 := Lib.hid (byte_at s m hlt)
      cases hb : Lx.blank (s[m]'hlt)
      · go_wp2
        go_quiet ((go_at_call 83; exact quiet_back2 (Tryz.strings_HasPrefix _ _ _)))
        have hr := remark_at s m hlt
        generalize hp : Lib.hasPrefix _ _ = hpb
        cases hpb
        · have HD : Hid (Lx.skip false (s.data.toList.drop k) = s.data.toList.drop m) := by
            rw [← HE.out, HD0.out]
            refine Lx.skip_stays hb ?_
            rw [show Lib.hasPrefix (s.extract m s.size).data.toList [47, 47] = false from hp] at hr
            rintro ⟨h1, h2⟩
            rw [h2] at hr
            simp [h1] at hr
          clear hp hr hb
          go_wp2
          refine bodyPost_ret (results_none rfl _ _ _) rfl ⟨rfl, ?_, ?_⟩
          · rw [skipAt_of HD.out hm]
            exact HC.out
          · repeat (first | exact hg | refine World.grownBy.trans ?_ (grown_drewN _ _ _))
        · have HR : Hid (Lx.skip true (s.data.toList.drop m) = Lx.skip false (s.data.toList.drop k)) := by
            rw [show Lib.hasPrefix (s.extract m s.size).data.toList [47, 47] = true from hp] at hr
            simp only [Bool.true_eq, Bool.and_eq_true, beq_iff_eq] at hr
            have e := HE.out
            rw [HD0.out, Lx.skip_remark hb hr.1 hr.2] at e
            rw [HD0.out, Lx.skip_within (by rw [hr.1]; decide)]
            exact e
          have H47 : Hid (s[m].toNat = 47) := by
            rw [show Lib.hasPrefix (s.extract m s.size).data.toList [47, 47] = true from hp] at hr
            simp only [Bool.true_eq, Bool.and_eq_true, beq_iff_eq] at hr
            exact hr.1
          clear hp hr hb hc0 hc1 hf1
          go_wp2
          go_loopg [] (s.size - m) (fun n wr => ∃ p : Nat, n = s.size - p ∧ m ≤ p ∧ p ≤ s.size ∧ Cu wr b s p ∧ w.grownBy wr (some b) ∧ Lx.skip true (s.data.toList.drop p) = Lx.skip false (s.data.toList.drop k))
          case atStart =>
            refine ⟨m, rfl, Nat.le_refl _, hm, HC.out, ?_, HR.out⟩
            repeat (first | exact hg | refine World.grownBy.trans ?_ (grown_drewN _ _ _))
          case round =>
            obtain ⟨p, hn2, hmp, hp, hcp, hg2, he2⟩ := hrel
            have hc0 := hcp.c0
            have hc1 := hcp.c1
            have hf1 := hcp.f1
            have HE2 := Lib.hid he2
            have HN2 := Lib.hid hn2
            have HC2 := Lib.hid hcp
            clear he2 hn2 hcp
            by_cases hlp : p < s.size
            · have hip : (p : Int) < (s.size : Int) := by omega
              have hip0 : (0 : Int) ≤ (p : Int) := by omega
              have HDp := Lib.hid (byte_at s p hlp)
              by_cases h10 : s[p].toNat = 10
              · have hB : (((s[p]'hlp).toNat : Int) != 10) = false := by simp [h10]
                have H10 := Lib.hid h10
                clear h10
                go_wp2
                go_quiet (fail)
                go_wp2
                go_roundg (s.size - p)
                case measure =>
                  have h1 := HN.out
                  have h2 : p ≠ m := fun e => by
                    subst e
                    have := H10.out
                    have := H47.out
                    omega
                  omega
                case rel =>
                  refine ⟨p, rfl, hp, HC2.out, hg2.trans ?_, ?_⟩
                  · repeat (first | exact grown_drewN _ _ _ | refine World.grownBy.trans ?_ (grown_drewN _ _ _))
                  · have e := HE2.out
                    rw [HDp.out, Lx.skip_out H10.out] at e
                    rw [HDp.out]
                    exact e
              · have hB : (((s[p]'hlp).toNat : Int) != 10) = true := by simp; omega
                have H10 := Lib.hid h10
                clear h10
                go_wp2
                go_quiet (fail)
                go_wp2
                go_roundg (s.size - (p + 1))
                case measure => have := HN2.out; omega
                case rel =>
                  refine ⟨p + 1, rfl, by omega, by omega, HC2.out.set _ _ (by omega), (hg2.trans ?_).trans (grown_set _ _ _ _), ?_⟩
                  · repeat (first | exact grown_drewN _ _ _ | refine World.grownBy.trans ?_ (grown_drewN _ _ _))
                  · have e := HE2.out
                    rw [HDp.out, Lx.skip_within H10.out] at e
                    exact e
            · have hpe : Hid (p = s.size) := by
                have : p = s.size := by omega
                exact this
              go_wp2
              go_quiet (fail)
              go_wp2
              go_roundg (s.size - p)
              case measure =>
                have h1 := HN.out
                have h2 := hpe.out
                omega
              case rel =>
                refine ⟨p, rfl, hp, HC2.out, hg2.trans ?_, ?_⟩
                · repeat (first | exact grown_drewN _ _ _ | refine World.grownBy.trans ?_ (grown_drewN _ _ _))
                · have e := HE2.out
                  rw [List.drop_eq_nil_of_le (by rw [len_size]; have := hpe.out; omega), Lx.skip_end] at e
                  rw [List.drop_eq_nil_of_le (by rw [len_size]; have := hpe.out; omega), Lx.skip_end]
                  exact e
      · have HD : Hid (Lx.skip false (s.data.toList.drop (m + 1)) = Lx.skip false (s.data.toList.drop k)) := by
          have e := HE.out
          rw [HD0.out, Lx.skip_blank hb] at e
          exact e
        go_wp2
        go_roundg (s.size - (m + 1))
        case measure => have := HN.out; omega
        case rel => exact ⟨m + 1, rfl, by omega, (HC.out.drewN _).set _ _ (by omega), (hg.trans (grown_drewN _ _ _)).trans (grown_set _ _ _ _), HD.out⟩
    · have HZ : Hid (Lx.skip false (s.data.toList.drop k) = s.data.toList.drop m) := by
        have e := HE.out
        have hd0 : s.data.toList.drop m = [] := List.drop_eq_nil_of_le (by rw [len_size]; omega)
        rw [hd0, Lx.skip_end] at e
        rw [hd0]
        exact e.symm
      go_wp2
      go_wp2
      refine bodyPost_end (results_none rfl _ _ _) rfl ⟨rfl, ?_, ?_⟩
      · rw [skipAt_of HZ.out hm]
        exact HC.out
      · repeat (first | exact hg | refine World.grownBy.trans ?_ (grown_drewN _ _ _))
end Go.Proofs.YtbhdkkkaeabkhaaGreatDoor
