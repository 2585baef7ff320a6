/-
  Chapter 1 in plain Lean: what lex computes, over lists of bytes. No program in sight.
  Chapter 1 in plain Lean: what the walks of package lex ask of the plain functions. No program in sight.
  The walks of package lex's functions of one byte.
  A cutter in memory: its one block; what the walks of package lex ask of the world.
  The walks of begins, wrong and Words; the package-level variables that are read.
  The package-level variables that are read on these roads: what is known of them, and that it stays.
  A row of bytes that the call itself makes: append of one byte, and the string of such a row.
  strings.Builder's writing methods, walked at this program's own library (its copyCheck is a later one than the shelf's).
  The walk of (*cutter).skip.
-/
import Derived.Test.YtdncljdfmdgdaaaGreatDoorProg
import Derived.WalkKit
import Derived.WalkLawsBesides
import Derived.WalkSpells
import Derived.Deep.QuietTactic
import Derived.BigQuiet
import Derived.Deep.LoopGhost
import Derived.Lib.Strings
import Derived.Test.YtdncljdfmdgdaaaGreatDoorShelf
import Derived.Lib.IndexLaws
import Derived.Maps.AppendAt
import Derived.RangeFuncBox
namespace Go.Proofs.YtdncljdfmdgdaaaGreatDoor.Lx

abbrev Bytes := List UInt8

structure Tok where
  pos : Int
  kind : Int
  s : Bytes
  n : Int
  deriving DecidableEq, Inhabited

def small (c : UInt8) : Bool := 97 ≤ c.toNat && c.toNat ≤ 122
def great (c : UInt8) : Bool := 65 ≤ c.toNat && c.toNat ≤ 90
def digit (c : UInt8) : Bool := 48 ≤ c.toNat && c.toNat ≤ 57
def letter (c : UInt8) : Bool := small c || great c
def within (c : UInt8) : Bool := letter c || digit c || c.toNat == 95
def blank (c : UInt8) : Bool := c.toNat == 9 || c.toNat == 10 || c.toNat == 13 || c.toNat == 32
/-- '(){};:,.=<+-*' -/
def signs : Bytes := [40, 41, 123, 125, 59, 58, 44, 46, 61, 60, 43, 45, 42]
def begins (c : UInt8) : Bool := letter c || digit c || c.toNat == 34 || signs.contains c

def words : List Bytes := [
  [116, 121, 112, 101], [109, 101, 116, 104, 111, 100], [102, 117, 110, 99], [109, 97, 105, 110], [105, 110, 116, 101, 114, 102, 97, 99, 101],
  [101, 109, 98, 101, 100], [105, 110, 116], [98, 111, 111, 108], [116, 101, 120, 116], [102, 110], [108, 101, 116], [112, 114, 105, 110, 116],
  [105, 102], [101, 108, 115, 101], [119, 104, 105, 108, 101], [114, 101, 116, 117, 114, 110], [110, 105, 108], [110, 101, 119], [116, 111],
  [97, 110, 100], [111, 114], [110, 111, 116], [116, 114, 117, 101], [102, 97, 108, 115, 101], [115, 101, 108, 102]]

/-- What is left behind blanks and remarks; 'true': within a remark. -/
def skip : Bool → Bytes → Bytes
  | _, [] => []
  | false, c :: t => if blank c then skip false t else if c.toNat == 47 && t.head? == some 47 then skip true t else c :: t
  | true, c :: t => if c.toNat == 10 then skip false t else skip true t

def value (l : Bytes) : Nat := l.foldl (fun v c => v * 10 + (c.toNat - 48)) 0

inductive Res where
  | bad (why at_ : Nat)
  | ok (t : Tok) (len : Nat)
  deriving DecidableEq, Inhabited

def nameKind (n : Bytes) : Nat := if words.contains n then 3 else if (n.head?.map great).getD false then 2 else 1

def cutName (p : Nat) (l : Bytes) : Res :=
  let n := l.takeWhile within
  if 32 < n.length then .bad 2 (p + 32) else .ok ⟨p, nameKind n, n, 0⟩ n.length

def cutNumber (p : Nat) (l : Bytes) : Res :=
  let d := l.takeWhile digit
  if 9223372036854775807 < value d || (l.head? == some 48 && 1 < d.length) || ((l.drop d.length).head?.map within).getD false then .bad 11 p
  else .ok ⟨p, 4, [], value d⟩ d.length

/-- Behind the first quote. -/
def quoted (p : Nat) : Bytes → Bytes → Nat → Res
  | [], _, k => .bad 12 (p + k)
  | 34 :: _, acc, k => .ok ⟨p, 5, acc, 0⟩ (k + 1)
  | 92 :: [], _, k => .bad 12 (p + k + 1)
  | 92 :: c :: t, acc, k => if c.toNat == 110 then quoted p t (acc ++ [10]) (k + 2) else if c.toNat == 34 || c.toNat == 92 then quoted p t (acc ++ [c]) (k + 2) else .bad 12 (p + k + 1)
  | c :: t, acc, k => if c.toNat < 32 || 126 < c.toNat then .bad 12 (p + k) else quoted p t (acc ++ [c]) (k + 1)

def cut (p : Nat) (l : Bytes) : Res :=
  match l with
  | [] => .bad 0 p
  | b :: t =>
    if letter b then cutName p l
    else if digit b then cutNumber p l
    else if b.toNat == 34 then quoted p t [] 1
    else if b.toNat == 61 && t.head? == some 61 then .ok ⟨p, 6, [61, 61], 0⟩ 2
    else .ok ⟨p, 6, [b], 0⟩ 1

/-- The tokens from a place on, 'i' having been cut; (why, where): how it goes wrong. -/
def go : Nat → Nat → Nat → Bytes → List Tok × Option (Nat × Nat)
  | 0, _, _, _ => ([], none)
  | f + 1, p, i, l =>
    let r := skip false l
    let q := p + (l.length - r.length)
    match r with
    | [] => ([], none)
    | b :: _ =>
      if !begins b then ([], some (10, q))
      else if i == 4096 then ([], some (3, q))
      else match cut q r with
        | .bad why x => ([], some (why, x))
        | .ok t n => let z := go f (q + n) (i + 1) (r.drop n); (t :: z.1, z.2)

def toks (src : Bytes) : List Tok × Option (Nat × Nat) :=
  if 65536 < src.length then ([], some (2, 0)) else go (src.length + 1) 0 0 src

/-- A text as a token writes it. -/
def quoteIn : Bytes → Bytes
  | [] => []
  | c :: t => (if c.toNat == 10 then [92, 110] else if c.toNat == 34 || c.toNat == 92 then [92, c] else [c]) ++ quoteIn t
def quote (s : Bytes) : Bytes := 34 :: (quoteIn s ++ [34])

end Go.Proofs.YtdncljdfmdgdaaaGreatDoor.Lx

namespace Go.Proofs.YtdncljdfmdgdaaaGreatDoor.Lx

/-! ### lists -/
theorem drop_cons_of_lt {l : Bytes} {k : Nat} (h : k < l.length) : l.drop k = l[k] :: l.drop (k + 1) := List.drop_eq_getElem_cons h

theorem skip_le : ∀ (m : Bool) (l : Bytes), (skip m l).length ≤ l.length
  | _, [] => by simp [skip]
  | false, c :: t => by
    unfold skip
    split
    · have := skip_le false t; simp; omega
    · split
      · have := skip_le true t; simp; omega
      · simp
  | true, c :: t => by
    unfold skip
    split
    · have := skip_le false t; simp; omega
    · have := skip_le true t; simp; omega

theorem skip_blank {c : UInt8} {t : Bytes} (h : blank c = true) : skip false (c :: t) = skip false t := by simp [skip, h]
theorem skip_remark {c : UInt8} {t : Bytes} (h : blank c = false) (h1 : c.toNat = 47) (h2 : t.head? = some 47) : skip false (c :: t) = skip true t := by simp [skip, h, h1, h2]
theorem skip_stays {c : UInt8} {t : Bytes} (h : blank c = false) (h1 : ¬ (c.toNat = 47 ∧ t.head? = some 47)) : skip false (c :: t) = c :: t := by
  unfold skip
  rw [if_neg (by simp [h]), if_neg (by simpa using h1)]
theorem skip_within {c : UInt8} {t : Bytes} (h : c.toNat ≠ 10) : skip true (c :: t) = skip true t := by simp [skip, h]
theorem skip_out {c : UInt8} {t : Bytes} (h : c.toNat = 10) : skip true (c :: t) = skip false (c :: t) := by
  have hb : blank c = true := by simp [blank, h]
  simp [skip, h, hb]
theorem skip_end (m : Bool) : skip m [] = [] := by cases m <;> simp [skip]

end Go.Proofs.YtdncljdfmdgdaaaGreatDoor.Lx

namespace Go.Proofs.YtdncljdfmdgdaaaGreatDoor
open Go.RowKit

set_option maxHeartbeats 400000

theorem ret_bool {x y : Bool} (h : x = y) : Ending.returned (.bool x) = .returned (.bool y) := by rw [h]

theorem lexSmall (b : UInt8) (w : World) : Calls Tryz.prog 154 #[.int .u8 (b.toNat : Int)] w fun e w' => e = .returned (.bool (Lx.small b)) ∧ w = w' := by
  go_enter Tryz.func154, Tryz.ntmps154
  go_wp2
  all_goals
    go_ret
    refine ⟨ret_bool ?_, rfl⟩
    rw [Bool.eq_iff_iff]
    simp [Lx.small]
    omega

theorem lexGreat (b : UInt8) (w : World) : Calls Tryz.prog 155 #[.int .u8 (b.toNat : Int)] w fun e w' => e = .returned (.bool (Lx.great b)) ∧ w = w' := by
  go_enter Tryz.func155, Tryz.ntmps155
  go_wp2
  all_goals
    go_ret
    refine ⟨ret_bool ?_, rfl⟩
    rw [Bool.eq_iff_iff]
    simp [Lx.great]
    omega

theorem lexDigit (b : UInt8) (w : World) : Calls Tryz.prog 143 #[.int .u8 (b.toNat : Int)] w fun e w' => e = .returned (.bool (Lx.digit b)) ∧ w = w' := by
  go_enter Tryz.func143, Tryz.ntmps143
  go_wp2
  all_goals
    go_ret
    refine ⟨ret_bool ?_, rfl⟩
    rw [Bool.eq_iff_iff]
    simp [Lx.digit]
    omega

theorem lexBlank (b : UInt8) (w : World) : Calls Tryz.prog 140 #[.int .u8 (b.toNat : Int)] w fun e w' => e = .returned (.bool (Lx.blank b)) ∧ w = w' := by
  go_enter Tryz.func140, Tryz.ntmps140
  go_wp2
  all_goals
    go_ret
    refine ⟨ret_bool ?_, rfl⟩
    rw [Bool.eq_iff_iff]
    simp [Lx.blank]
    omega

theorem lexLetter (b : UInt8) (w : World) : Calls Tryz.prog 142 #[.int .u8 (b.toNat : Int)] w fun e w' => e = .returned (.bool (Lx.letter b)) ∧ w = w' := by
  go_enter Tryz.func142, Tryz.ntmps142
  go_wp2_with (first | (go_at_call 154; refine (lexSmall _ _).mono ?_; rintro e w' ⟨rfl, rfl⟩) | (go_at_call 155; refine (lexGreat _ _).mono ?_; rintro e w' ⟨rfl, rfl⟩))
  all_goals
    go_ret
    refine ⟨ret_bool ?_, rfl⟩
    simp [Lx.letter, *]

theorem lexWithin (b : UInt8) (w : World) : Calls Tryz.prog 157 #[.int .u8 (b.toNat : Int)] w fun e w' => e = .returned (.bool (Lx.within b)) ∧ w = w' := by
  go_enter Tryz.func157, Tryz.ntmps157
  go_wp2_with (first | (go_at_call 142; refine (lexLetter _ _).mono ?_; rintro e w' ⟨rfl, rfl⟩) | (go_at_call 143; refine (lexDigit _ _).mono ?_; rintro e w' ⟨rfl, rfl⟩))
  all_goals
    go_ret
    refine ⟨ret_bool ?_, rfl⟩
    rw [Bool.eq_iff_iff]
    simp [Lx.within, *]
    try omega

end Go.Proofs.YtdncljdfmdgdaaaGreatDoor

namespace Go.Proofs.YtdncljdfmdgdaaaGreatDoor
open Go.RowKit

/-- A callee that leaves the world alone, met in a region that draws. -/
theorem quiet_eq {P : Program} {f : FuncId} {args : Array Value} {w : World} {n : Nat} {v : Value}
    (h : Calls P f args (w.drewN n) fun e w' => e = .returned v ∧ w.drewN n = w') : Calls P f args (w.drewN n) fun e w'' => e = .returned v ∧ ∃ m, w'' = w.drewN m :=
  h.mono fun _ _ ⟨he, hm⟩ => ⟨he, n, hm.symm⟩

/-- .. behind draws. -/
theorem quiet_eq2 {P : Program} {f : FuncId} {args : Array Value} {w : World} {a n : Nat} {v : Value}
    (h : Calls P f args (w.drewN (a + n)) fun e w' => e = .returned v ∧ w.drewN (a + n) = w') :
    Calls P f args (w.drewN (a + n)) fun e w'' => e = .returned v ∧ ∃ m, w'' = w.drewN (a + m) :=
  h.mono fun _ _ ⟨he, hm⟩ => ⟨he, n, hm.symm⟩
theorem quiet_back {P : Program} {f : FuncId} {args : Array Value} {w : World} {n : Nat} {v : Value}
    (h : Calls P f args (w.drewN n) fun e w' => e = .returned v ∧ w' = w.drewN n) : Calls P f args (w.drewN n) fun e w'' => e = .returned v ∧ ∃ m, w'' = w.drewN m :=
  h.mono fun _ _ ⟨he, hm⟩ => ⟨he, n, hm⟩
theorem quiet_back2 {P : Program} {f : FuncId} {args : Array Value} {w : World} {a n : Nat} {v : Value}
    (h : Calls P f args (w.drewN (a + n)) fun e w' => e = .returned v ∧ w' = w.drewN (a + n)) :
    Calls P f args (w.drewN (a + n)) fun e w'' => e = .returned v ∧ ∃ m, w'' = w.drewN (a + m) :=
  h.mono fun _ _ ⟨he, hm⟩ => ⟨he, n, hm⟩

/-- The cutter's block. -/
def Cu (w : World) (b : Nat) (s : ByteArray) (k : Nat) : Prop := w.heap[b]? = some (.cells #[.string s, .int .i64 (k : Int)] 171 (0, 0))

section
variable {w w' : World} {b : Nat} {s : ByteArray} {k : Nat}
theorem Cu.c0 (h : Cu w b s k) : w.cell? ⟨b, 0, none⟩ = some (.string s) := by simp [World.cell?, show w.heap[b]? = _ from h]
theorem Cu.c1 (h : Cu w b s k) : w.cell? ⟨b, 1, none⟩ = some (.int .i64 (k : Int)) := by simp [World.cell?, show w.heap[b]? = _ from h]
theorem Cu.f1 (h : Cu w b s k) : w.frozen? ⟨b, 1, none⟩ = false := by simp [World.frozen?, show w.heap[b]? = _ from h]
theorem Cu.lt (h : Cu w b s k) : b < w.heap.size := (Array.getElem?_eq_some_iff.1 h).1
theorem Cu.set (h : Cu w b s k) (j : Int) (m : Nat) (hj : j = (m : Int)) : Cu (w.setCell ⟨b, 1, none⟩ (.int .i64 j)) b s m := by
  subst hj
  simp [Cu, World.setCell, Array.getElem?_modify, show w.heap[b]? = _ from h]
theorem Cu.drewN (h : Cu w b s k) (n : Nat) : Cu (w.drewN n) b s k := h
theorem Cu.alloc (h : Cu w b s k) (o : Obj) : Cu (w.alloc o) b s k := (Below.heap_alloc w o b h.lt).trans h
theorem Cu.kept (h : Cu w b s k) {row : Option Nat} (hg : w.grownBy w' row) (hr : some b ≠ row) : Cu w' b s k := (hg.block b h.lt hr).trans h
end

theorem grown_set (w : World) (b j : Nat) (v : Value) : w.grownBy (w.setCell ⟨b, j, none⟩ v) (some b) :=
  ⟨rfl, rfl, rfl, by simp [World.setCell], fun k hk hne => Below.heap_setCell w _ _ k (fun e => hne (by rw [e]))⟩
theorem grown_drewN (w : World) (n : Nat) (row : Option Nat) : w.grownBy (w.drewN n) row := ⟨rfl, rfl, rfl, Nat.le_refl _, fun _ _ _ => rfl⟩
/-- The cells of a known block. -/
theorem cell_of {w : World} {g t : Nat} {cs : Array Value} {fr : Nat × Nat} (h : w.heap[g]? = some (.cells cs t fr)) (j : Nat) : w.cell? ⟨g, j, none⟩ = cs[j]? := by simp [World.cell?, h]
theorem free_of {w : World} {g t : Nat} {cs : Array Value} (h : w.heap[g]? = some (.cells cs t (0, 0))) (j : Nat) : w.frozen? ⟨g, j, none⟩ = false := by simp [World.frozen?, h]
theorem lt_of_block {w : World} {g : Nat} {o : Obj} (h : w.heap[g]? = some o) : g < w.heap.size := (Array.getElem?_eq_some_iff.1 h).1
theorem heap_alloc {w : World} {g : Nat} {o : Obj} (h : w.heap[g]? = some o) (o' : Obj) : (w.alloc o').heap[g]? = some o := (Below.heap_alloc w o' g (lt_of_block h)).trans h
/-- A block of four cells, for the walk: each cell, none frozen; in the world as it stands and behind one new block. -/
theorem four_cells {w : World} {g t : Nat} {a b c d : Value} (h : w.heap[g]? = some (.cells #[a, b, c, d] t (0, 0))) :
    w.cell? ⟨g, 0, none⟩ = some a ∧ w.cell? ⟨g, 1, none⟩ = some b ∧ w.cell? ⟨g, 2, none⟩ = some c ∧ w.cell? ⟨g, 3, none⟩ = some d :=
  ⟨cell_of h 0, cell_of h 1, cell_of h 2, cell_of h 3⟩
theorem four_free {w : World} {g t : Nat} {a b c d : Value} (h : w.heap[g]? = some (.cells #[a, b, c, d] t (0, 0))) :
    w.frozen? ⟨g, 0, none⟩ = false ∧ w.frozen? ⟨g, 1, none⟩ = false ∧ w.frozen? ⟨g, 2, none⟩ = false ∧ w.frozen? ⟨g, 3, none⟩ = false :=
  ⟨free_of h 0, free_of h 1, free_of h 2, free_of h 3⟩
/-- What was written besides lies beyond what there was. -/
theorem grown_new {w w1 w2 : World} {b g : Nat} (h : w.grownBy w1 (some b)) (h' : w1.grownBy w2 (some g)) (hg : w.heap.size ≤ g) : w.grownBy w2 (some b) :=
  ⟨h'.os.trans h.os, h'.tape.trans h.tape, h'.output.trans h.output, Nat.le_trans h.size h'.size, fun k hk hne =>
    (h'.block k (Nat.lt_of_lt_of_le hk h.size) (fun e => by injection e with e; omega)).trans (h.block k hk hne)⟩
/-- A store into another block. -/
theorem Cu.far {w : World} {b k : Nat} {s : ByteArray} (h : Cu w b s k) {g : Nat} (hne : b ≠ g) (j : Nat) (v : Value) : Cu (w.setCell ⟨g, j, none⟩ v) b s k :=
  (Below.heap_setCell w ⟨g, j, none⟩ v b hne).trans h
theorem byte_at (s : ByteArray) (k : Nat) (h : k < s.size) : s.data.toList.drop k = s[k] :: s.data.toList.drop (k + 1) := by
  rw [List.drop_eq_getElem_cons (by simpa using h)]
  rfl
theorem take_grow (s : ByteArray) (k m : Nat) (hkm : k ≤ m) (h : m < s.size) : (s.data.toList.drop k).take (m + 1 - k) = (s.data.toList.drop k).take (m - k) ++ [s[m]] := by
  have hl : m - k < (s.data.toList.drop k).length := by
    rw [List.length_drop, Array.length_toList]
    have : s.data.size = s.size := rfl
    omega
  rw [show m + 1 - k = (m - k) + 1 from by omega, List.take_succ_eq_append_getElem hl]
  congr 2
  rw [List.getElem_drop]
  show s.data.toList[k + (m - k)]'_ = s.data.toList[m]'_
  congr 1
  omega
theorem tail_data (s : ByteArray) (k : Nat) : (s.extract k s.size).data.toList = s.data.toList.drop k := by
  rw [Lib.extract_data, List.take_of_length_le (by simp)]
theorem u8_eq (c : UInt8) (n : Nat) (h : n < 256) : c.toNat = n ↔ c = UInt8.ofNat n := by
  constructor
  · intro e
    apply UInt8.toNat_inj.1
    rw [e]
    simp [Nat.mod_eq_of_lt h]
  · intro e
    rw [e]
    simp [Nat.mod_eq_of_lt h]
theorem remark_at (s : ByteArray) (k : Nat) (h : k < s.size) : Lib.hasPrefix (s.extract k s.size).data.toList [47, 47] = (s[k].toNat == 47 && (s.data.toList.drop (k + 1)).head? == some 47) := by
  rw [tail_data, byte_at s k h, Bool.eq_iff_iff]
  have e : ∀ c : UInt8, c.toNat = 47 ↔ c = 47 := fun c => u8_eq c 47 (by decide)
  cases s.data.toList.drop (k + 1) with
  | nil => simp [Lib.hasPrefix, List.isPrefixOf]
  | cons c t =>
    simp only [Lib.hasPrefix, List.isPrefixOf, Bool.and_eq_true, beq_iff_eq, List.head?_cons, Option.some.injEq, e]
    constructor
    · rintro ⟨a, b, -⟩
      exact ⟨a.symm, b.symm⟩
    · rintro ⟨a, b⟩
      exact ⟨a.symm, b.symm, trivial⟩
theorem len_size (s : ByteArray) : s.data.toList.length = s.size := by rw [Array.length_toList]; rfl

end Go.Proofs.YtdncljdfmdgdaaaGreatDoor

namespace Go.Proofs.YtdncljdfmdgdaaaGreatDoor
open Go.RowKit
set_option linter.unusedSimpArgs false
set_option linter.unusedVariables false

theorem idx_begins (l : List UInt8) (c : UInt8) : decide (0 ≤ Lib.indexByte l c) = l.contains c := by
  have hge := Lib.indexByte_ge l c
  rw [Bool.eq_iff_iff]
  simp only [decide_eq_true_eq, List.contains_iff_mem]
  by_cases h : Lib.indexByte l c = -1
  · constructor
    · intro; omega
    · intro hm
      obtain ⟨k, hk, e⟩ := List.getElem_of_mem hm
      exact absurd (by rw [List.getElem?_eq_getElem hk, e]) (Lib.indexByte_none h k)
  · constructor
    · intro h0
      obtain ⟨o, ho⟩ := Int.eq_ofNat_of_zero_le h0
      exact List.mem_of_getElem? (Lib.indexByte_some ho).1
    · intro; omega

theorem lexBegins (b : UInt8) (w : World) : Calls Tryz.prog 126 #[.int .u8 (b.toNat : Int)] w fun e w' => e = .returned (.bool (Lx.begins b)) ∧ w = w' := by
  have hx := idx_begins Lx.signs b
  go_enter Tryz.func126, Tryz.ntmps126
  go_wp2_with (first | (go_at_call 142; refine (lexLetter _ _).mono ?_; rintro e w' ⟨rfl, rfl⟩) | (go_at_call 143; refine (lexDigit _ _).mono ?_; rintro e w' ⟨rfl, rfl⟩) | (go_at_call 144; refine (Tryz.strings_IndexByte _ _ _).mono ?_; rintro e w' ⟨rfl, rfl⟩))
  all_goals
    go_ret
    refine ⟨ret_bool ?_, rfl⟩
  · simp [Lx.begins, *]
  · simp [Lx.begins, *]
  · have e : b.toNat = 34 := by omega
    simp [Lx.begins, e]
  · have e : (b.toNat == 34) = false := by simp; omega
    have e2 : ((b.toNat : Int) == 34) = false := by simp; omega
    change ((b.toNat : Int) == 34 || decide (0 ≤ Lib.indexByte Lx.signs b)) = _
    rw [hx, e2]
    simp [Lx.begins, *]

/-- A refusal in memory. -/
def IsRef (w : World) (g : Nat) (p y : Int) : Prop := w.heap[g]? = some (.cells #[.int .i64 p, .int .i64 y] 183 (0, 0))

theorem lexWrong (p y : Int) (w : World) : Calls Tryz.prog 124 #[.int .i64 p, .int .i64 y] w fun e w' =>
    e = .returned (.pointer (some ⟨w.heap.size, 0, none⟩)) ∧ w' = w.alloc (.cells #[.int .i64 p, .int .i64 y] 183) := by
  go_enter Tryz.func124, Tryz.ntmps124
  go_wp2
  go_ret
  exact ⟨rfl, rfl⟩

/-- The cells of the language's words. -/
def wordCells : Array Value := (Lx.words.map fun l => Value.string ⟨l.toArray⟩).toArray

def wordText : ByteArray := { data := ([116, 121, 112, 101, 32, 109, 101, 116, 104, 111, 100, 32, 102, 117, 110, 99, 32, 109, 97, 105, 110, 32, 105, 110, 116, 101, 114, 102, 97, 99, 101, 32, 101, 109, 98, 101, 100, 32, 105, 110, 116, 32, 98, 111, 111, 108, 32, 116, 101, 120, 116, 32, 102, 110, 32, 108, 101, 116, 32, 112, 114].append [105, 110, 116, 32, 105, 102, 32, 101, 108, 115, 101, 32, 119, 104, 105, 108, 101, 32, 114, 101, 116, 117, 114, 110, 32, 110, 105, 108, 32, 110, 101, 119, 32, 116, 111, 32, 97, 110, 100, 32, 111, 114, 32, 110, 111, 116, 32, 116, 114, 117, 101, 32, 102, 97, 108, 115, 101, 32, 115, 101, 108, 102]).toArray }
theorem wordText_size : wordText.size < 4294967281 := by decide +kernel
theorem wordText_all : wordText.data.toList.all (fun b => decide (b.toNat < 128)) = true := by decide +kernel
theorem wordText_ascii (j : Nat) (b : UInt8) (h : wordText.data.toList[j]? = some b) : b.toNat < 128 :=
  of_decide_eq_true (List.all_eq_true.1 wordText_all b (List.mem_of_getElem? h))
theorem wordText_fields : Lib.fields wordText.data.toList = Lx.words := by decide +kernel

theorem lexWords (w : World) (htab : Lib.TabIs Tryz.prog w "strings.asciiSpace" .u8 Lib.asciiSpaceTab) : Calls Tryz.prog 158 #[] w fun e w' =>
    e = .returned (.slice (some ⟨w.heap.size, 0, none⟩) 25 25) ∧ w' = w.alloc (.cells wordCells 9) := by
  go_enter Tryz.func158, Tryz.ntmps158
  go_wp2_with (go_at_call 172; refine (Tryz.strings_Fields wordText _ wordText_size wordText_ascii htab).mono ?_; rw [wordText_fields]; rintro e w' ⟨rfl, rfl⟩)
  go_ret
  exact ⟨rfl, rfl⟩

end Go.Proofs.YtdncljdfmdgdaaaGreatDoor

namespace Go.Proofs.YtdncljdfmdgdaaaGreatDoor
open Go.RowKit
set_option linter.unusedSimpArgs false
set_option linter.unusedVariables false

theorem gAsc : Tryz.prog.globalNamed "strings.asciiSpace" = some 2 := by kernel_rfl
theorem gPow : Tryz.prog.globalNamed "internal/strconv.uint64pow10" = some 0 := by kernel_rfl

/-- An error in a variable. -/
def ErrCell (w : World) (g : Nat) : Prop := ∃ ev, w.cell? ⟨g, 0, none⟩ = some ev ∧ (ev = .nilIface ∨ ∃ te pe, ev = .iface te pe)

structure GS (w : World) : Prop where
  asc : Lib.TabIs Tryz.prog w "strings.asciiSpace" .u8 Lib.asciiSpaceTab
  pow : Lib.TabIs Tryz.prog w "internal/strconv.uint64pow10" .u64 Lib.pow10Tab
  syn : ErrCell w 4
  rng : ErrCell w 5

/-- One more than the greatest number of a variable. -/
def NG : Nat := 1 + max (max 2 0) (max 4 5)

theorem lt_of_var {w : World} {n : String} {g : Nat} {cs : Array Value} (hg : Tryz.prog.globalNamed n = some g) (h : w.var? Tryz.prog n = some cs) : g < w.heap.size := by
  unfold World.var? at h
  rw [hg] at h
  simp only [Option.bind_some] at h
  rcases Nat.lt_or_ge g w.heap.size with h1 | h1
  · exact h1
  · rw [Array.getElem?_eq_none h1] at h
    cases h
theorem lt_of_cell0 {w : World} {g : Nat} {v : Value} (h : w.cell? ⟨g, 0, none⟩ = some v) : g < w.heap.size := World.block_lt_of_cell? w ⟨g, 0, none⟩ h

theorem GS.of_heap {w w' : World} (h : GS w) (hk : ∀ k, k < NG → k < w.heap.size → w'.heap[k]? = w.heap[k]?) : GS w' := by
  have ha := lt_of_var gAsc h.asc
  have hp := lt_of_var gPow h.pow
  obtain ⟨e1, h1, h1'⟩ := h.syn
  obtain ⟨e2, h2, h2'⟩ := h.rng
  have hs := lt_of_cell0 h1
  have hr := lt_of_cell0 h2
  refine ⟨?_, ?_, ⟨e1, ?_, h1'⟩, ⟨e2, ?_, h2'⟩⟩
  · have := h.asc
    unfold Lib.TabIs World.var? at this ⊢
    rw [gAsc] at this ⊢
    simp only [Option.bind_some] at this ⊢
    rw [hk _ (by decide) ha]
    exact this
  · have := h.pow
    unfold Lib.TabIs World.var? at this ⊢
    rw [gPow] at this ⊢
    simp only [Option.bind_some] at this ⊢
    rw [hk _ (by decide) hp]
    exact this
  · rw [← h1]; exact World.cell?_of_block (hk _ (by decide) hs)
  · rw [← h2]; exact World.cell?_of_block (hk _ (by decide) hr)
theorem GS.below {w w' : World} (h : GS w) (hb : Below w.heap.size w w') : GS w' := h.of_heap fun k _ hk => hb.block k hk
theorem GS.grown {w w' : World} {b : Nat} (h : GS w) (hg : w.grownBy w' (some b)) (hb : NG ≤ b) : GS w' := h.of_heap fun k hn hk => hg.block k hk (fun e => by injection e with e; omega)
theorem GS.alloc {w : World} (h : GS w) (o : Obj) : GS (w.alloc o) := h.of_heap fun k _ hk => Below.heap_alloc w o k hk
theorem GS.drewN {w : World} (h : GS w) (n : Nat) : GS (w.drewN n) := h.of_heap fun _ _ _ => rfl

end Go.Proofs.YtdncljdfmdgdaaaGreatDoor

namespace Go.Proofs.YtdncljdfmdgdaaaGreatDoor
open Go.RowKit
set_option linter.unusedSimpArgs false
set_option linter.unusedVariables false

def bytesV (l : List UInt8) : List Value := l.map fun c => Value.int .u8 (c.toNat : Int)
theorem bytesV_length (l : List UInt8) : (bytesV l).length = l.length := by simp [bytesV]
theorem bytesV_snoc (l : List UInt8) (c : UInt8) : bytesV (l ++ [c]) = bytesV l ++ [.int .u8 (c.toNat : Int)] := by simp [bytesV]

/-- A row of bytes of the call's own. -/
def OwnB (w : World) (base : Nat) (v : Value) (l : List UInt8) : Prop := w.ownsRow base 5 1 v l.length (bytesV l)

theorem infoU8 : (Tryz.prog.info? 5).map (fun i => (i.zero, i.size, i.bytes)) = some (some (.int .u8 0), 1, 1) := by kernel_rfl

theorem OwnB.nil (w : World) (base : Nat) : OwnB w base (.slice none 0 0) [] := World.ownsRow_nil w base _ 1
theorem OwnB.alloc {w : World} {base : Nat} {v : Value} {l : List UInt8} (h : OwnB w base v l) (o : Obj) : OwnB (w.alloc o) base v l := World.ownsRow.alloc h o
theorem OwnB.drewN {w : World} {base : Nat} {v : Value} {l : List UInt8} (h : OwnB w base v l) (n : Nat) : OwnB (w.drewN n) base v l := World.ownsRow.kept h (grown_drewN w n none) (by cases v.ownBlock <;> simp)
theorem OwnB.set {w : World} {base b : Nat} {v : Value} {l : List UInt8} (h : OwnB w base v l) (hb : b < base) (j : Nat) (x : Value) : OwnB (w.setCell ⟨b, j, none⟩ x) base v l :=
  World.ownsRow.kept h (grown_set w b j x) (by
    rcases hv : v.ownBlock with _ | g
    · exact .inl rfl
    · exact .inr fun e => by
        injection e with e
        have := (World.ownsRow.lt h g hv).1
        omega)
theorem OwnB.slice {w : World} {base : Nat} {v : Value} {l : List UInt8} (h : OwnB w base v l) : ∃ A c, v = .slice A l.length c := by
  rcases h.2 with ⟨rfl, h0⟩ | ⟨g, cap, cur, rfl, _⟩
  · exact ⟨none, 0, by rw [h0]⟩
  · exact ⟨_, cap, rfl⟩
theorem OwnB.base {w : World} {base : Nat} {v : Value} {l : List UInt8} (h : OwnB w base v l) (k : Nat) (hk : v.ownBlock = some k) : base ≤ k := (World.ownsRow.lt h k hk).1

/-- append(v, c): behind 'at_builtin', in the world that has just laid the variadic's box. -/
theorem appByte {ops : Array Oper} {rest : List Oper} {o : Oper} {a : Act} {Q : Exit → Act → World → Prop} {W : World} (base : Nat) (hgd : o.guard = none) (s x : Operand)
    (ho : o.op = .call { callee := .builtin .append, args := #[s, x], argTypes := #[98, 98] })
    (v : Value) (l : List UInt8) (c : UInt8) (hs : a.eval s = v) (hx : a.eval x = .slice (some ⟨W.heap.size, 0, none⟩) 1 1) (HO : OwnB W base v l) (hbase : base ≤ W.heap.size) (hl : l.length ≤ 140737488351232)
    (h : ∀ v1 w1, OwnB w1 base v1 (l ++ [c]) → (W.alloc (.cells #[.int .u8 (c.toNat : Int)] 5)).grownBy w1 v.ownBlock → wpList Tryz.prog ops Q rest (a.put o.dst v1) w1) :
    wpList Tryz.prog ops Q (o :: rest) a (W.alloc (.cells #[.int .u8 (c.toNat : Int)] 5)) := by
  obtain ⟨i0, hi, hz0, hz1, hz2⟩ := info_parts infoU8
  refine wpList_append_own (W.alloc (.cells #[.int .u8 (c.toNat : Int)] 5)) hgd s x 98 ho base 5 i0 (.int .u8 0) 1 1 Tryz.underlying98 hi hz0 hz1 hz2 rfl (by decide) v l.length (bytesV l) hs (World.ownsRow.alloc HO _) ⟨W.heap.size, 0, none⟩ 1 1 [.int .u8 (c.toNat : Int)] hx rfl (cell_one_new _ _ _) (by simp [Value.oneCell']) (by unfold maxLen; omega) (by omega) (by simp; omega) ?_
  intro v1 w1 hown hg _
  refine h v1 w1 ?_ hg
  unfold OwnB
  rw [bytesV_snoc]
  simpa using hown

/-- The same at a step of a region that draws its order: the byte's box is block N. -/
theorem stepByte {ops : Array Oper} {o : Oper} {a : Act} {K : Act → World → Prop} {Q : Exit → Act → World → Prop} {E : Prop} {W : World} (base : Nat) (hgd : o.guard = none) (s x : Operand)
    (ho : o.op = .call { callee := .builtin .append, args := #[s, x], argTypes := #[98, 98] })
    (v : Value) (l : List UInt8) (c : UInt8) (N : Nat) (hs : a.eval s = v) (hx : a.eval x = .slice (some ⟨N, 0, none⟩) 1 1) (hN : W.heap[N]? = some (.cells #[.int .u8 (c.toNat : Int)] 5 (0, 0)))
    (HO : OwnB W base v l) (hbase : base ≤ W.heap.size) (hl : l.length ≤ 140737488351232)
    (h : ∀ v1 w1, OwnB w1 base v1 (l ++ [c]) → W.grownBy w1 v.ownBlock → K (a.put o.dst v1) w1) :
    if Region.wanted o (yielded ops a.tmps) = true then Oper.wp Tryz.prog o a W K Q else E := by
  obtain ⟨i0, hi, hz0, hz1, hz2⟩ := info_parts infoU8
  rw [if_pos (by simp [Region.wanted, hgd])]
  refine wp_append_own W s x 98 ho base 5 i0 (.int .u8 0) 1 1 Tryz.underlying98 hi hz0 hz1 hz2 rfl (by decide) v l.length (bytesV l) hs HO ⟨N, 0, none⟩ 1 1 [.int .u8 (c.toNat : Int)] hx rfl ?_ (by simp [Value.oneCell']) (by unfold maxLen; omega) (by omega) hbase ?_
  · intro j u hj
    match j, hj with
    | 0, hj =>
      simp at hj
      subst hj
      show W.cell? ⟨N, 0, none⟩ = _
      rw [cell_of hN]
      rfl
  · intro v1 w1 hown hg _
    refine h v1 w1 ?_ hg
    unfold OwnB
    rw [bytesV_snoc]
    simpa using hown

/-- string(v). -/
theorem strByte {W : World} {base : Nat} {v : Value} {l : List UInt8} (h : OwnB W base v l) : (convert 98 9 v).run Tryz.prog W = .ok (.string ⟨l.toArray⟩) W := by
  rcases h.2 with ⟨rfl, h0⟩ | ⟨g, cap, cur, rfl, hb, hg, hn, hm, hcs, ht⟩
  · have : l = [] := List.eq_nil_of_length_eq_zero h0
    subst this
    exact run_convert_bytes_nil W 98 5 Tryz.underlying98 Tryz.underlying5 0 0 _ Tryz.underlying9
  · have e : (⟨l.toArray⟩ : ByteArray) = strOfNums (l.map fun c => (c.toNat : Int)) := by
      have : (l.map fun c => (c.toNat : Int)).map (fun n => UInt8.ofNat n.toNat) = l := by
        rw [List.map_map]
        conv => rhs; rw [← List.map_id l]
        congr 1
        funext c
        simp
      unfold strOfNums
      rw [this]
    rw [e]
    refine run_convert_bytes_arg W 98 5 Tryz.underlying98 Tryz.underlying5 g 0 l.length cap _ (by simp) (fun i hi => ?_) _ Tryz.underlying9
    have hc := World.ownsRow.cells h (g := g) rfl i (.int .u8 ((l.map fun c => (c.toNat : Int)).getD i 0)) (by
      simp [bytesV, List.getD_eq_getElem?_getD, List.getElem?_eq_getElem hi])
    have ha : (⟨g, 0, none⟩ : Addr).add i = ⟨g, 0 + i, none⟩ := by unfold Addr.add; split <;> simp_all
    rwa [ha] at hc
end Go.Proofs.YtdncljdfmdgdaaaGreatDoor

namespace Go.Proofs.YtdncljdfmdgdaaaGreatDoor
open Go.RowKit Go.Shelf
set_option linter.unusedSimpArgs false
set_option linter.unusedVariables false

theorem infoBld : (Tryz.prog.info? 100).map (·.size) = some 2 := by kernel_rfl
theorem liesBld : liesAt Tryz.prog Tryz.prog.depth 100 (2 / Tryz.prog.cellsOf 100) 0 100 1 = true := by kernel_rfl

set_option maxRecDepth 100000 in
set_option maxHeartbeats 1000000 in
theorem bldUsed (b : Nat) (w : World) (h0 : w.cell? ⟨b, 0, none⟩ = some (.pointer (some ⟨b, 0, none⟩))) :
    Calls Tryz.prog 129 #[.pointer (some ⟨b, 0, none⟩)] w fun e w' => e = .returned (.tuple #[]) ∧ w' = w := by
  obtain ⟨j, hj, _⟩ := Option.map_eq_some_iff.1 infoBld
  go_enter Tryz.func129, Tryz.ntmps129
  go_wp2
  rw [Lib.run_neq_ptr_same w _ Tryz.underlying97 hj]
  go_wp2
  go_end0
  exact ⟨rfl, rfl⟩

set_option maxRecDepth 100000 in
set_option maxHeartbeats 1000000 in
theorem bldFresh (b : Nat) (w : World) (h0 : w.cell? ⟨b, 0, none⟩ = some (.pointer none)) (hsh : w.shape? b = some (100, 2)) (hfz : w.frozen? ⟨b, 0, none⟩ = false) :
    Calls Tryz.prog 129 #[.pointer (some ⟨b, 0, none⟩)] w fun e w' => e = .returned (.tuple #[]) ∧ w' = w.setCell ⟨b, 0, none⟩ (.pointer (some ⟨b, 0, none⟩)) := by
  obtain ⟨j, hj, hjs⟩ := Option.map_eq_some_iff.1 infoBld
  go_enter Tryz.func129, Tryz.ntmps129
  go_wp2
  rw [Lib.run_to_unsafe w ⟨b, 0, none⟩ Tryz.underlying97 Tryz.underlying187 hj (by rw [hjs]; decide) hsh (Nat.zero_lt_succ 1)]
  simp only [Result.andThen]
  rw [Oper.upon_value]
  go_wp2
  rw [run_callFunc_extern Tryz.func148 (by kernel_rfl) (by kernel_rfl) (by kernel_rfl) (e := Extern.AbiNoEscape.same) (by kernel_rfl)]
  rw [Lib.run_noEscape]
  simp only [Result.andThen]
  rw [Oper.upon_value]
  go_wp2
  rw [Lib.run_from_unsafe w ⟨b, 0, none⟩ Tryz.underlying187 Tryz.underlying97 hj hsh liesBld]
  simp only [Result.andThen]
  rw [Oper.upon_value]
  go_wp2
  go_end0
  exact ⟨rfl, rfl⟩

/-- A builder of the call's own: its bytes. -/
def Bld (B b : Nat) (l : List UInt8) (w : World) : Prop := Lib.IsBuilder 100 5 B b (Lib.byteCells l) w

theorem bldCheck (B b : Nat) (l : List UInt8) (w : World) (h : Bld B b l w) :
    Calls Tryz.prog 129 #[.pointer (some ⟨b, 0, none⟩)] w fun e w' => e = .returned (.tuple #[]) ∧ (Lib.BuilderAt 100 5 B b (.pointer (some ⟨b, 0, none⟩)) (Lib.byteCells l) w' ∧ Below B w w') := by
  rcases h with h | h
  · refine (bldFresh b w h.cell0 h.shape h.frozen0).mono ?_
    rintro e w' ⟨rfl, rfl⟩
    exact ⟨rfl, h.used _, (Below.refl B w).setCell (p := ⟨b, 0, none⟩) h.1 _⟩
  · refine (bldUsed b w h.cell0).mono ?_
    rintro e w' ⟨rfl, rfl⟩
    exact ⟨rfl, h, Below.refl B _⟩
theorem byteCells_length (l : List UInt8) : (Lib.byteCells l).length = l.length := by simp [Lib.byteCells]

set_option maxHeartbeats 2000000 in
set_option maxRecDepth 100000 in
theorem bldByte (B b : Nat) (l : List UInt8) (c : UInt8) (w : World) (h : Bld B b l w) (hlen : l.length + 1 ≤ 140737488355328) (hBw : B ≤ w.heap.size) :
    Calls Tryz.prog 93 #[.pointer (some ⟨b, 0, none⟩), .int .u8 (c.toNat : Int)] w fun e w' => e = .returned .nilIface ∧ Bld B b (l ++ [c]) w' ∧ Below B w w' := by
  obtain ⟨i0, hi, hz0, hz1, hz2⟩ := info_parts infoU8
  have hll := byteCells_length l
  go_enter Tryz.func93, Tryz.ntmps93
  go_wp2_with (go_at_call 129; refine (bldCheck B b l _ h).mono ?_)
  rintro e w1 ⟨rfl, h1, hb1⟩
  obtain ⟨hB, v, hbk, hown, hne⟩ := h1
  have hlt : b < w1.heap.size := lt_of_block hbk
  have c0 : w1.cell? ⟨b, 0, none⟩ = some (.pointer (some ⟨b, 0, none⟩)) := by rw [Lib.cell_of_heap hbk]; rfl
  have c1 : w1.cell? ⟨b, 1, none⟩ = some v := by rw [Lib.cell_of_heap hbk]; rfl
  have hsz := hb1.size
  go_wp2_with (at_builtin; refine wpList_append_own _ rfl _ _ 98 rfl B 5 i0 (.int .u8 0) 1 1 Tryz.underlying98 hi hz0 hz1 hz2 rfl (by decide) _ _ _ rfl (hown.alloc _) ⟨w1.heap.size, 0, none⟩ 1 1 [.int .u8 (c.toNat : Int)] rfl rfl (cell_one_new _ _ _) (by simp [Value.oneCell']) (by unfold maxLen; omega) (by omega) (by simp; omega) ?_)
  intro v' w2 hown' hgrow _
  have hb2 : w2.heap[b]? = some (.cells #[.pointer (some ⟨b, 0, none⟩), v] 100 (0, 0)) := by
    rw [hgrow.block b (by simp; omega) (fun e => hne e.symm), Lib.alloc_old w1 _ b hlt]
    exact hbk
  have d0 : w2.cell? ⟨b, 0, none⟩ = some (.pointer (some ⟨b, 0, none⟩)) := by rw [Lib.cell_of_heap hb2]; rfl
  have d1 : w2.cell? ⟨b, 1, none⟩ = some v := by rw [Lib.cell_of_heap hb2]; rfl
  have f1 : w2.frozen? ⟨b, 1, none⟩ = false := Lib.frozen_of_heap hb2 1
  obtain ⟨g, cap, rfl⟩ := ownsRow_succ hown'
  go_wp2
  go_ret
  refine ⟨rfl, .inr ?_, ?_⟩
  · have e : Lib.byteCells (l ++ [c]) = Lib.byteCells l ++ [.int .u8 (c.toNat : Int)] := by simp [Lib.byteCells]
    rw [e]
    exact Lib.BuilderAt.put (T := 100) (e := 5) hB hb2 (bs' := Lib.byteCells l ++ [.int .u8 (c.toNat : Int)]) (by rw [show (Lib.byteCells l ++ [Value.int .u8 (c.toNat : Int)]).length = l.length + 1 from by simp [byteCells_length]]; exact hown') (by decide)
  · exact ((hb1.alloc (by omega) _).grown hgrow (by simp; omega) (fun k hk => (hown.lt k hk).1)).setCell (p := ⟨b, 1, none⟩) hB _

set_option maxHeartbeats 2000000 in
set_option maxRecDepth 100000 in
theorem bldStr (B b : Nat) (l : List UInt8) (s : ByteArray) (w : World) (h : Bld B b l w) (hlen : l.length + s.size ≤ 140737488355328) (hBw : B ≤ w.heap.size) :
    Calls Tryz.prog 94 #[.pointer (some ⟨b, 0, none⟩), .string s] w fun e w' => e = .returned (.tuple #[.int .i64 s.size, .nilIface]) ∧ Bld B b (l ++ s.data.toList) w' ∧ Below B w w' := by
  obtain ⟨i0, hi, hz0, hz1, hz2⟩ := info_parts infoU8
  have hll := byteCells_length l
  go_enter Tryz.func94, Tryz.ntmps94
  go_wp2_with (go_at_call 129; refine (bldCheck B b l _ h).mono ?_)
  rintro e w1 ⟨rfl, h1, hb1⟩
  obtain ⟨hB, v, hbk, hown, hne⟩ := h1
  have hlt : b < w1.heap.size := lt_of_block hbk
  have c0 : w1.cell? ⟨b, 0, none⟩ = some (.pointer (some ⟨b, 0, none⟩)) := by rw [Lib.cell_of_heap hbk]; rfl
  have c1 : w1.cell? ⟨b, 1, none⟩ = some v := by rw [Lib.cell_of_heap hbk]; rfl
  have hsz := hb1.size
  go_wp2_with (at_builtin; refine Lib.wpList_append_own_string (P := Tryz.prog) (w := w1) rfl _ _ 98 9 rfl B 5 i0 Tryz.underlying98 Tryz.underlying9 hi hz0 hz1 hz2 _ _ _ rfl hown s rfl (by unfold maxLen; omega) (by omega) (by omega) ?_)
  intro v' w2 hown' hgrow _
  have hb2 : w2.heap[b]? = some (.cells #[.pointer (some ⟨b, 0, none⟩), v] 100 (0, 0)) := by
    rw [hgrow.block b hlt (fun e => hne e.symm)]
    exact hbk
  have d0 : w2.cell? ⟨b, 0, none⟩ = some (.pointer (some ⟨b, 0, none⟩)) := by rw [Lib.cell_of_heap hb2]; rfl
  have d1 : w2.cell? ⟨b, 1, none⟩ = some v := by rw [Lib.cell_of_heap hb2]; rfl
  have f1 : w2.frozen? ⟨b, 1, none⟩ = false := Lib.frozen_of_heap hb2 1
  obtain ⟨A0, cap, rfl⟩ : ∃ A c, v' = .slice A (l.length + s.size) c := by
    rcases hown'.2 with ⟨rfl, h0⟩ | ⟨g, cap, cur, rfl, _⟩
    · exact ⟨none, 0, by rw [h0]⟩
    · exact ⟨_, cap, rfl⟩
  go_wp2
  refine bodyPost_ret (results_tmp2 rfl _ _ _) rfl ?_
  refine ⟨rfl, .inr ?_, ?_⟩
  · have e : Lib.byteCells (l ++ s.data.toList) = Lib.byteCells l ++ Lib.strCells s := by simp [Lib.byteCells, Lib.strCells]
    rw [e]
    exact Lib.BuilderAt.put (T := 100) (e := 5) hB hb2 (bs' := Lib.byteCells l ++ Lib.strCells s) (by rw [show (Lib.byteCells l ++ Lib.strCells s).length = l.length + s.size from hown'.1.trans (Nat.mul_one _)]; exact hown') (by decide)
  · exact (hb1.grown hgrow (by omega) (fun k hk => (hown.lt k hk).1)).setCell (p := ⟨b, 1, none⟩) hB _

end Go.Proofs.YtdncljdfmdgdaaaGreatDoor

namespace Go.Proofs.YtdncljdfmdgdaaaGreatDoor
open Go.RowKit

/-- Where skip leaves the cutter. -/
def skipAt (s : ByteArray) (k : Nat) : Nat := s.size - (Lx.skip false (s.data.toList.drop k)).length

theorem skipAt_of {s : ByteArray} {k m : Nat} (h : Lx.skip false (s.data.toList.drop k) = s.data.toList.drop m) (hm : m ≤ s.size) : skipAt s k = m := by
  unfold skipAt
  rw [h, List.length_drop, len_size]
  omega

set_option maxHeartbeats 1000000 in
theorem lexSkip (s : ByteArray) (b k : Nat) (w : World) (hc : Cu w b s k) (hk : k ≤ s.size) (hs : s.size ≤ 140737488351232) :
    Calls Tryz.prog 125 #[.pointer (some ⟨b, 0, none⟩)] w fun e w' => e = .returned (.tuple #[]) ∧ Cu w' b s (skipAt s k) ∧ w.grownBy w' (some b) := by
  go_enter Tryz.func125, Tryz.ntmps125
  go_wp2
  go_loopg [] (s.size - k) (fun n wr => ∃ m : Nat, n = s.size - m ∧ m ≤ s.size ∧ Cu wr b s m ∧ w.grownBy wr (some b) ∧ Lx.skip false (s.data.toList.drop m) = Lx.skip false (s.data.toList.drop k))
  case atStart => exact ⟨k, rfl, hk, hc, World.grownBy.refl _ _, rfl⟩
  case round =>
    obtain ⟨m, hn, hm, hcm, hg, he⟩ := hrel
    obtain ⟨g0, rfl⟩ : ∃ g0, g0 = gk := ⟨_, rfl⟩
    obtain ⟨wo, rfl⟩ : ∃ wo : World, wo = wr := ⟨_, rfl⟩
    have hc0 := hcm.c0
    have hc1 := hcm.c1
    have hf1 := hcm.f1
    have HE : Hid (Lx.skip false (s.data.toList.drop m) = Lx.skip false (s.data.toList.drop k)) := he
    have HN : Hid (g0 = s.size - m) := hn
    have HC := Lib.hid hcm
    clear he hn hcm
    go_wp2
    go_quiet (fail)
    by_cases hlt : m < s.size
    · have hi : (m : Int) < (s.size : Int) := by omega
      have hi0 : (0 : Int) ≤ (m : Int) := by omega
      go_wp2
      go_quiet ((go_at_call 140; exact quiet_eq2 (lexBlank _ _)))
      have HD0 := Lib.hid (byte_at s m hlt)
      cases hb : Lx.blank (s[m]'hlt)
      · go_wp2
        go_quiet ((go_at_call 141; exact quiet_back2 (Tryz.strings_HasPrefix _ _ _)))
        have hr := remark_at s m hlt
        generalize hp : Lib.hasPrefix _ _ = hpb
        cases hpb
        · have HD : Hid (Lx.skip false (s.data.toList.drop k) = s.data.toList.drop m) := by
            rw [← HE.out, HD0.out]
            refine Lx.skip_stays hb ?_
            rw [show Lib.hasPrefix (s.extract m s.size).data.toList [47, 47] = false from hp] at hr
            rintro ⟨h1, h2⟩
            rw [h2] at hr
            simp [h1] at hr
          clear hp hr hb
          go_wp2
          refine bodyPost_ret (results_none rfl _ _ _) rfl ⟨rfl, ?_, ?_⟩
          · rw [skipAt_of HD.out hm]
            exact HC.out
          · repeat (first | exact hg | refine World.grownBy.trans ?_ (grown_drewN _ _ _))
        · have HR : Hid (Lx.skip true (s.data.toList.drop m) = Lx.skip false (s.data.toList.drop k)) := by
            rw [show Lib.hasPrefix (s.extract m s.size).data.toList [47, 47] = true from hp] at hr
            simp only [Bool.true_eq, Bool.and_eq_true, beq_iff_eq] at hr
            have e := HE.out
            rw [HD0.out, Lx.skip_remark hb hr.1 hr.2] at e
            rw [HD0.out, Lx.skip_within (by rw [hr.1]; decide)]
            exact e
          have H47 : Hid (s[m].toNat = 47) := by
            rw [show Lib.hasPrefix (s.extract m s.size).data.toList [47, 47] = true from hp] at hr
            simp only [Bool.true_eq, Bool.and_eq_true, beq_iff_eq] at hr
            exact hr.1
          clear hp hr hb hc0 hc1 hf1
          go_wp2
          go_loopg [] (s.size - m) (fun n wr => ∃ p : Nat, n = s.size - p ∧ m ≤ p ∧ p ≤ s.size ∧ Cu wr b s p ∧ w.grownBy wr (some b) ∧ Lx.skip true (s.data.toList.drop p) = Lx.skip false (s.data.toList.drop k))
          case atStart =>
            refine ⟨m, rfl, Nat.le_refl _, hm, HC.out, ?_, HR.out⟩
            repeat (first | exact hg | refine World.grownBy.trans ?_ (grown_drewN _ _ _))
          case round =>
            obtain ⟨p, hn2, hmp, hp, hcp, hg2, he2⟩ := hrel
            have hc0 := hcp.c0
            have hc1 := hcp.c1
            have hf1 := hcp.f1
            have HE2 := Lib.hid he2
            have HN2 := Lib.hid hn2
            have HC2 := Lib.hid hcp
            clear he2 hn2 hcp
            by_cases hlp : p < s.size
            · have hip : (p : Int) < (s.size : Int) := by omega
              have hip0 : (0 : Int) ≤ (p : Int) := by omega
              have HDp := Lib.hid (byte_at s p hlp)
              by_cases h10 : s[p].toNat = 10
              · have hB : (((s[p]'hlp).toNat : Int) != 10) = false := by simp [h10]
                have H10 := Lib.hid h10
                clear h10
                go_wp2
                go_quiet (fail)
                go_wp2
                go_roundg (s.size - p)
                case measure =>
                  have h1 := HN.out
                  have h2 : p ≠ m := fun e => by
                    subst e
                    have := H10.out
                    have := H47.out
                    omega
                  omega
                case rel =>
                  refine ⟨p, rfl, hp, HC2.out, hg2.trans ?_, ?_⟩
                  · repeat (first | exact grown_drewN _ _ _ | refine World.grownBy.trans ?_ (grown_drewN _ _ _))
                  · have e := HE2.out
                    rw [HDp.out, Lx.skip_out H10.out] at e
                    rw [HDp.out]
                    exact e
              · have hB : (((s[p]'hlp).toNat : Int) != 10) = true := by simp; omega
                have H10 := Lib.hid h10
                clear h10
                go_wp2
                go_quiet (fail)
                go_wp2
                go_roundg (s.size - (p + 1))
                case measure => have := HN2.out; omega
                case rel =>
                  refine ⟨p + 1, rfl, by omega, by omega, HC2.out.set _ _ (by omega), (hg2.trans ?_).trans (grown_set _ _ _ _), ?_⟩
                  · repeat (first | exact grown_drewN _ _ _ | refine World.grownBy.trans ?_ (grown_drewN _ _ _))
                  · have e := HE2.out
                    rw [HDp.out, Lx.skip_within H10.out] at e
                    exact e
            · have hpe : Hid (p = s.size) := by
                have : p = s.size := by omega
                exact this
              go_wp2
              go_quiet (fail)
              go_wp2
              go_roundg (s.size - p)
              case measure =>
                have h1 := HN.out
                have h2 := hpe.out
                omega
              case rel =>
                refine ⟨p, rfl, hp, HC2.out, hg2.trans ?_, ?_⟩
                · repeat (first | exact grown_drewN _ _ _ | refine World.grownBy.trans ?_ (grown_drewN _ _ _))
                · have e := HE2.out
                  rw [List.drop_eq_nil_of_le (by rw [len_size]; have := hpe.out; omega), Lx.skip_end] at e
                  rw [List.drop_eq_nil_of_le (by rw [len_size]; have := hpe.out; omega), Lx.skip_end]
                  exact e
      · have HD : Hid (Lx.skip false (s.data.toList.drop (m + 1)) = Lx.skip false (s.data.toList.drop k)) := by
          have e := HE.out
          rw [HD0.out, Lx.skip_blank hb] at e
          exact e
        go_wp2
        go_roundg (s.size - (m + 1))
        case measure => have := HN.out; omega
        case rel => exact ⟨m + 1, rfl, by omega, (HC.out.drewN _).set _ _ (by omega), (hg.trans (grown_drewN _ _ _)).trans (grown_set _ _ _ _), HD.out⟩
    · have HZ : Hid (Lx.skip false (s.data.toList.drop k) = s.data.toList.drop m) := by
        have e := HE.out
        have hd0 : s.data.toList.drop m = [] := List.drop_eq_nil_of_le (by rw [len_size]; omega)
        rw [hd0, Lx.skip_end] at e
        rw [hd0]
        exact e.symm
      go_wp2
      go_wp2
      refine bodyPost_end (results_none rfl _ _ _) rfl ⟨rfl, ?_, ?_⟩
      · rw [skipAt_of HZ.out hm]
        exact HC.out
      · repeat (first | exact hg | refine World.grownBy.trans ?_ (grown_drewN _ _ _))
end Go.Proofs.YtdncljdfmdgdaaaGreatDoor
