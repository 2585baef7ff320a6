/-
  coillaw1.LexRuns: chapter 1's runs.
  Plain laws: what text a token has, and that a cut looks no further than its token. No program in sight.
  Plain laws: what is joined is cut back; a rest behind a line's end; a token's place. No program in sight.
  Plain laws: single tokens cut from their texts. No program in sight.
  Small helpers of the laws: few; LexRuns as the last test of each.
  The walks of bare and short.
  The walk of short.
  A row of tokens that is known whole: made, copied into, written.
  coilref1's functions of one byte.
-/
import Derived.Test.YtbhdkkkaeabkhaaGreatDoorM13
import Derived.StillTailTactics
import Derived.OwnWalk
import Derived.Laws.CopyOwn
import Derived.Test.YtbhdkkkaeabkhaaGreatDoorM1
namespace Go.Proofs.YtbhdkkkaeabkhaaGreatDoor
open Go.RowKit Go.Shelf
set_option linter.unusedSimpArgs false
set_option linter.unusedVariables false

theorem lwJoin {w W : World} (h : LW w W) {ts : List Lx.Tok} {v : Value} (hv : ToksIn W v ts) (hl : ts.length ≤ 1000000000) (hts : ∀ t ∈ ts, t.s.length ≤ 1000000000 ∧ -9223372036854775808 ≤ t.n ∧ t.n ≤ 9223372036854775807) :
    Calls Tryz.prog 18 #[v] W fun e W' => e = .returned (.tuple #[.string ⟨(Lx.join ts).1.toArray⟩, .int .i64 (Lx.join ts).2]) ∧ LW w W' :=
  (lexJoin ts v W h.g.gs h.n hv hl hts).mono fun e W' h' => ⟨h'.1, h.go h'.2⟩
theorem lwRefused {w W : World} (h : LW w W) (g x y : Nat) (a b : Int) (hR : IsRef W g x y) (hx : x ≤ 9223372036854775807) (hy : y ≤ 1000000) :
    Calls Tryz.prog 17 #[.iface 74 (.pointer (some ⟨g, 0, none⟩)), .int .i64 a, .int .i64 b] W fun e W' => e = .returned (.bool ((x : Int) == a && (y : Int) == b)) ∧ LW w W' :=
  (lawRefused g x y a b W hR h.g (by omega) (by omega) (by omega) (by omega)).mono fun e W' h' => ⟨h'.1, h.go h'.2⟩

def runs1 : List Lx.Tok := [⟨0, 3, [108, 101, 116], 0⟩, ⟨4, 1, [120], 0⟩, ⟨6, 6, [61], 0⟩, ⟨8, 4, [], 5⟩, ⟨9, 6, [59], 0⟩]
def runs2 : List Lx.Tok := [⟨0, 2, [65], 0⟩, ⟨1, 6, [61, 61], 0⟩, ⟨3, 1, [97], 0⟩]
def runs3 : List Lx.Tok := [⟨0, 5, [97, 10, 34], 0⟩]
def runs4 : List Lx.Tok := [⟨0, 4, [], 0⟩]

theorem lwSays {w W : World} (h : LW w W) (s : ByteArray) (ts : List Lx.Tok) (v : Value) (hs : s.size ≤ 140737488351232) (hv : ToksIn W v ts) (hl : ts.length ≤ 1000000000) (hT : saysB s.data.toList ts = true) :
    Calls Tryz.prog 14 #[.string s, v] W fun e W' => e = .returned (.bool true) ∧ LW w W' :=
  (lawSays s ts v W h.g h.n hs hv hl).mono fun e W' h' => ⟨by rw [← hT]; exact h'.1, h.go h'.2.b⟩
theorem toks_new (W : World) (ts : List Lx.Tok) (cs : Array Value) (n c : Nat) (hn : n = ts.length) (hc : cs.toList = ts.flatMap cellsT) : ToksIn (W.alloc (.cells cs 26)) (.slice (some ⟨W.heap.size, 0, none⟩) n c) ts := by
  subst hn
  refine .inr ⟨W.heap.size, c, cs, (0, 0), rfl, heap_alloc_new W _, ?_⟩
  rw [hc, List.take_of_length_le]
  have : ∀ l : List Lx.Tok, (l.flatMap cellsT).length = l.length * 4 := by
    intro l
    induction l with
    | nil => rfl
    | cons t l ih => rw [List.flatMap_cons, List.length_append, ih, List.length_cons]; simp [cellsT]; omega
  rw [this]
  exact Nat.le_refl _

def runTexts : List Lx.Bytes := [[48, 48, 55], [49, 97], [57, 50, 50, 51, 51, 55, 50, 48, 51, 54, 56, 53, 52, 55, 55, 53, 56, 48, 56], [120, 32, 35, 32, 121], [97, 32, 47, 32, 98], [34, 97], [34, 97, 92, 120, 34], [195, 169],
  [97, 98, 99, 100, 101, 102, 103, 104, 105, 106, 97, 98, 99, 100, 101, 102, 103, 104, 105, 106, 97, 98, 99, 100, 101, 102, 103, 104, 105, 106, 97, 98, 99]]
def runPlaces : List Nat := [0, 0, 0, 2, 2, 2, 3, 0, 32]
def runWhys : List Nat := [11, 11, 11, 10, 10, 12, 12, 10, 2]
def runCells (l : List Nat) : Array Value := (l.map fun (n : Nat) => Value.int .i64 (n : Int)).toArray
theorem runs_key : ((List.range 9).all fun m => (Lx.toks (runTexts.getD m [])).2 == some (runWhys.getD m 0, runPlaces.getD m 0)) = true := by kernel_rfl
theorem runs_cut (m : Nat) (hm : m < 9) : ∃ l, Lx.toks (runTexts.getD m []) = (l, some (runWhys.getD m 0, runPlaces.getD m 0)) := by
  have h := List.all_eq_true.1 runs_key m (List.mem_range.2 hm)
  exact ⟨_, Prod.ext rfl (by simpa using h)⟩
theorem runs_bound : ∀ m, m < 9 → runWhys.getD m 0 ≤ 1000 ∧ runPlaces.getD m 0 ≤ 1000 ∧ (runTexts.getD m []).length ≤ 1000 := by decide
theorem runCells_at (l : List Nat) (m : Nat) (h : m < l.length) : (runCells l)[m]? = some (.int .i64 ((l.getD m 0 : Nat) : Int)) := by
  unfold runCells
  rw [List.getElem?_toArray, List.getElem?_map, List.getD_eq_getElem?_getD, List.getElem?_eq_getElem h]
  rfl
def runTextCells : Array Value := (runTexts.map fun s => Value.string ⟨s.toArray⟩).toArray
theorem runTextCells_at (m : Nat) (h : m < 9) : runTextCells[m]? = some (.string ⟨(runTexts.getD m []).toArray⟩) := by
  have hl : runTexts.length = 9 := rfl
  unfold runTextCells
  rw [List.getElem?_toArray, List.getElem?_map, List.getD_eq_getElem?_getD, List.getElem?_eq_getElem (by omega)]
  rfl

def runs5 : List Lx.Tok := [⟨5, 5, [97, 10], 0⟩, ⟨1, 1, [98], 0⟩]
def runs6 : List Lx.Tok := [⟨0, 1, [108, 101, 116], 0⟩]

theorem saysRuns {w W : World} (h : LW w W) (s : ByteArray) (ts : List Lx.Tok) (n : Nat) (hn : n = ts.length) (hs : s.size ≤ 1000) (hl : ts.length ≤ 1000) (hT : saysB s.data.toList ts = true) :
    Calls Tryz.prog 14 #[.string s, .slice (some ⟨W.heap.size, 0, none⟩) n n] (W.alloc (.cells (ts.flatMap cellsT).toArray 26)) fun e W' => e = .returned (.bool true) ∧ LW w W' :=
  lwSays (h.alloc _) s ts _ (by omega) (toks_new W ts _ n n hn rfl) (by omega) hT

set_option maxRecDepth 100000 in
set_option maxHeartbeats 8000000 in
theorem lawRuns (w : World) (hG : GL w) (hN : NG ≤ w.heap.size) : Calls Tryz.prog 3 #[] w fun e w' => e = .returned (.bool true) ∧ LW w w' := by
  have H0 := LW.refl hG hN
  have hs1 := fun W (h : LW w W) => saysRuns h ⟨#[108, 101, 116, 32, 120, 32, 61, 32, 53, 59]⟩ runs1 5 rfl (by decide) (by decide) (by kernel_rfl)
  have hs2 := fun W (h : LW w W) => saysRuns h ⟨#[65, 61, 61, 97]⟩ runs2 3 rfl (by decide) (by decide) (by kernel_rfl)
  have hs3 := fun W (h : LW w W) => saysRuns h ⟨#[34, 97, 92, 110, 92, 34, 34, 32, 47, 47, 32, 98]⟩ runs3 1 rfl (by decide) (by decide) (by kernel_rfl)
  have hs4 := fun W (h : LW w W) => saysRuns h ⟨#[48]⟩ runs4 1 rfl (by decide) (by decide) (by kernel_rfl)
  have hs5 := fun W (h : LW w W) => lwSays h ⟨#[47, 47, 32, 120]⟩ [] (.slice none 0 0) (by decide) (.inl ⟨rfl, none, 0, rfl⟩) (by decide) (by kernel_rfl)
  clear hG hN
  go_enter Tryz.func3, Tryz.ntmps3
  go_upto_region 8 with (first
    | (go_at_call 15; refine (lwTok (by assumption) _ _ _ _).mono ?_; rintro e W1 ⟨rfl, H1⟩)
    | (go_at_call 14; refine (hs1 _ (by assumption)).mono ?_; clear hs1; rintro e W2 ⟨rfl, H2⟩)
    | (go_at_call 14; refine (hs2 _ (by assumption)).mono ?_; clear hs2; rintro e W2 ⟨rfl, H2⟩)
    | (go_at_call 14; refine (hs3 _ (by assumption)).mono ?_; clear hs3; rintro e W2 ⟨rfl, H2⟩)
    | (go_at_call 14; refine (hs4 _ (by assumption)).mono ?_; clear hs4; rintro e W2 ⟨rfl, H2⟩)
    | (go_at_call 14; refine (hs5 _ (by assumption)).mono ?_; clear hs5; rintro e W2 ⟨rfl, H2⟩))
  obtain ⟨B, hB⟩ : ∃ B, W2.heap.size = B := ⟨_, rfl⟩
  obtain ⟨W3, hW3⟩ : ∃ W3, ((W2.alloc (.cells runTextCells 9)).alloc (.cells (runCells runPlaces) 3)).alloc (.cells (runCells runWhys) 3) = W3 := ⟨_, rfl⟩
  have H3 : LW w W3 := by rw [← hW3]; exact ((H2.alloc _).alloc _).alloc _
  have hT3 : W3.heap[B]? = some (.cells runTextCells 9 (0, 0)) := by rw [← hW3, ← hB]; exact heap_alloc (heap_alloc (heap_alloc_new _ _) _) _
  have hP3 : W3.heap[B + 1]? = some (.cells (runCells runPlaces) 3 (0, 0)) := by rw [← hW3, ← hB]; have := heap_alloc (heap_alloc_new (W2.alloc (.cells runTextCells 9)) (.cells (runCells runPlaces) 3)) (.cells (runCells runWhys) 3); rwa [World.size_alloc] at this
  have hY3 : W3.heap[B + 1 + 1]? = some (.cells (runCells runWhys) 3 (0, 0)) := by rw [← hW3, ← hB]; have := heap_alloc_new ((W2.alloc (.cells runTextCells 9)).alloc (.cells (runCells runPlaces) 3)) (.cells (runCells runWhys) 3); rwa [World.size_alloc, World.size_alloc] at this
  show Code.wp _ _ _ _ (((W2.alloc (.cells runTextCells 9)).alloc (.cells (runCells runPlaces) 3)).alloc (.cells (runCells runWhys) 3))
  rw [hW3, hB]
  have HA := Lib.hid hT3
  have HP := Lib.hid hP3
  have HY := Lib.hid hY3
  have hl3 := lt_of_block hY3
  have hB3 : LW W3 W3 := LW.refl H3.g H3.n
  clear hT3 hP3 hY3 hW3 hB
  go_wp2_with fail
  go_loopg [4] 9 (fun n v wr => ∃ (m : Nat), n = 9 - m ∧ v = .int .i64 (m : Int) ∧ m ≤ 9 ∧ LW W3 wr)
  case atStart => exact ⟨0, rfl, rfl, by omega, hB3⟩
  case round =>
    obtain ⟨m, hn, rfl, hm, hw⟩ := hrel
    have hb := hw.b
    have HN := Lib.hid hn
    clear hn hB3
    by_cases hlt : m < 9
    · have hi : (m : Int) < 9 := by omega
      have hi0 : (0 : Int) ≤ (m : Int) := by omega
      obtain ⟨b1, b2, b3⟩ := runs_bound m hlt
      obtain ⟨l, hl⟩ := runs_cut m hlt
      have t0 := (cell_of ((hb.block _ (by omega)).trans HA.out) m).trans (runTextCells_at m hlt)
      have t1 := (cell_of ((hb.block _ (by omega)).trans HP.out) m).trans (runCells_at runPlaces m hlt)
      have t2 := (cell_of ((hb.block _ (by omega)).trans HY.out) m).trans (runCells_at runWhys m hlt)
      have hsz := hb.size
      have l0 : B < wr.heap.size := by omega
      have l1 : B + 1 < wr.heap.size := by omega
      have l2 : B + 1 + 1 < wr.heap.size := by omega
      obtain ⟨x, hx⟩ : ∃ x, runPlaces.getD m 0 = x := ⟨_, rfl⟩
      obtain ⟨y, hy⟩ : ∃ y, runWhys.getD m 0 = y := ⟨_, rfl⟩
      obtain ⟨s, hs⟩ : ∃ s, runTexts.getD m [] = s := ⟨_, rfl⟩
      rw [hx] at t1 b2 hl
      rw [hy] at t2 b1 hl
      rw [hs] at t0 b3 hl
      have hT := lwTokens hw ⟨s.toArray⟩ (by show s.length ≤ _; omega)
      rw [show (⟨s.toArray⟩ : ByteArray).data.toList = s from rfl, hl] at hT
      have e1 : ((x : Int) == (x : Int)) = true := by simp
      have e2 : ((y : Int) == (y : Int)) = true := by simp
      clear hx hy hs hl
      go_wp2_with (go_at_call 16; refine hT.mono ?_; clear hT; rintro e W5 ⟨h5, hb5, -, g, rfl, hR, -⟩)
      have t5 := (World.cell?_of_block (a := ⟨B + 1, m, none⟩) (hb5.block _ l1)).trans t1
      have t6 := (World.cell?_of_block (a := ⟨B + 1 + 1, m, none⟩) (hb5.block _ l2)).trans t2
      have l5 := Nat.lt_of_lt_of_le l1 hb5.size
      have l6 := Nat.lt_of_lt_of_le l2 hb5.size
      go_still_tail 13, (by kernel_rfl)
      change wpList _ _ _ _ _ W5.drew
      have h7 : LW W3 W5.drew := LW.drewN h5 1
      have hR7 : IsRef W5.drew g x y := hR
      obtain ⟨W7, hW7⟩ : ∃ W7, W5.drew = W7 := ⟨_, rfl⟩
      rw [hW7] at h7 hR7 ⊢
      clear hW7 t5 t6 l5 l6 hR h5
      have hq := lwRefused h7 g x y x y hR7 (by omega) (by omega)
      rw [e1, e2] at hq
      clear e1 e2
      go_wp2_with (go_at_call 17; refine hq.mono ?_; clear hq; rintro e W6 ⟨rfl, h6⟩)
      go_roundg (9 - (m + 1))
      case measure => have := HN.out; omega
      case rel => exact ⟨m + 1, rfl, by simp, hlt, h6⟩
    · have hi : ¬ (m : Int) < 9 := by omega
      have hw0 : LW w wr := ⟨H3.b.trans (hw.b.mono H3.b.size), hw.g, hw.n⟩
      have hj1 := fun W (h : LW w W) => lwJoin h (ts := []) (v := .slice none 0 0) (.inl ⟨rfl, none, 0, rfl⟩) (by decide) (by simp)
      have hj2 := fun W (h : LW w W) => lwJoin (h.alloc (.cells (runs5.flatMap cellsT).toArray 26)) (toks_new W runs5 _ 2 2 rfl rfl) (by decide) (by decide)
      have hj3 := fun W (h : LW w W) => lwJoin (h.alloc (.cells (runs6.flatMap cellsT).toArray 26)) (toks_new W runs6 _ 1 1 rfl rfl) (by decide) (by decide)
      rw [show Lx.join [] = ([], 0) from by kernel_rfl] at hj1
      rw [show Lx.join runs5 = ([34, 97, 92, 110, 34, 32, 98], 0) from by kernel_rfl] at hj2
      rw [show Lx.join runs6 = ([], 1) from by kernel_rfl] at hj3
      have hws : ∀ W (h : LW w W), Calls Tryz.prog 20 #[] W fun e W' => e = .returned (.slice (some ⟨W.heap.size, 0, none⟩) 25 25) ∧ LW w W' ∧ StrsIn W' (.slice (some ⟨W.heap.size, 0, none⟩) 25 25) Lx.words := fun W h => (lexWords W h.g.gs.asc).mono fun e W' h' => by
        obtain ⟨rfl, rfl⟩ := h'
        exact ⟨rfl, h.alloc _, strsWords _⟩
      have hwr : ∀ W V (h : LW w W), StrsIn W V Lx.words → Calls Tryz.prog 21 #[] W fun e W' => e = .returned (.slice (some ⟨W.heap.size, 0, none⟩) 25 25) ∧ LW w W' ∧ StrsIn W' (.slice (some ⟨W.heap.size, 0, none⟩) 25 25) Lx.words ∧ StrsIn W' V Lx.words := fun W V h hV => (refWords W).mono fun e W' h' => by
        obtain ⟨rfl, rfl⟩ := h'
        exact ⟨rfl, h.alloc _, strsWords _, hV.below (grown_below (World.grownBy_alloc _ _ _))⟩
      have hss : ∀ W V U (h : LW w W), StrsIn W V Lx.words → StrsIn W U Lx.words → Calls Tryz.prog 19 #[V, U] W fun e W' => e = .returned (.bool true) ∧ LW w W' := fun W V U h hV hU => (lawSameStr _ _ V U W hV hU (by decide) (by decide)).mono fun e W' h' => ⟨by rw [h'.1]; simp, h.go h'.2⟩
      clear hw HA HP HY hl3 H3
      go_wp2_with (first
        | (go_at_call 15; refine (lwTok (by assumption) _ _ _ _).mono ?_; rintro e W1 ⟨rfl, H1⟩)
        | (go_at_call 18; refine (hj1 _ (by assumption)).mono ?_; clear hj1; rintro e W2 ⟨rfl, H2⟩)
        | (go_at_call 18; refine (hj2 _ (by assumption)).mono ?_; clear hj2; rintro e W2 ⟨rfl, H2⟩)
        | (go_at_call 18; refine (hj3 _ (by assumption)).mono ?_; clear hj3; rintro e W2 ⟨rfl, H2⟩)
        | (go_at_call 20; refine (hws _ (by assumption)).mono ?_; clear hws; rintro e W2 ⟨rfl, H2, hV⟩)
        | (go_at_call 21; refine (hwr _ _ (by assumption) hV).mono ?_; clear hwr; rintro e W3 ⟨rfl, H3, hU, hV3⟩)
        | (go_at_call 19; refine (hss _ _ _ (by assumption) hV3 hU).mono ?_; clear hss; rintro e W4 ⟨rfl, H4⟩))
      go_ret
      exact ⟨rfl, H4⟩

end Go.Proofs.YtbhdkkkaeabkhaaGreatDoor

namespace Go.Proofs.YtbhdkkkaeabkhaaGreatDoor.Lx
open Go

set_option linter.unusedSimpArgs false
/-! ### quoted, case by case -/
theorem quoted_esc (p : Nat) (c : UInt8) (t acc : Bytes) (k : Nat) : quoted p (92 :: c :: t) acc k = (if c.toNat == 110 then quoted p t (acc ++ [10]) (k + 2) else if c.toNat == 34 || c.toNat == 92 then quoted p t (acc ++ [c]) (k + 2) else .bad 12 (p + k + 1)) := rfl
theorem quoted_byte (p : Nat) (c : UInt8) (t acc : Bytes) (k : Nat) (e34 : c ≠ 34) (e92 : c ≠ 92) : quoted p (c :: t) acc k = (if c.toNat < 32 || 126 < c.toNat then Res.bad 12 (p + k) else quoted p t (acc ++ [c]) (k + 1)) := by
  rw [quoted.eq_def]
  split
  · cases ‹_ :: _ = []›
  · rename_i h1; injection h1 with h1 h2; exact absurd h1 e34
  · rename_i h1; injection h1 with h1 h2; exact absurd h1 e92
  · rename_i h1; injection h1 with h1 h2; exact absurd h1 e92
  · rename_i h1; injection h1 with h1 h2; subst h1; subst h2; rfl

/-- May a byte stand in a text? -/
def saidB (c : UInt8) : Bool := c.toNat == 10 || (decide (32 ≤ c.toNat) && decide (c.toNat ≤ 126))

theorem quoteIn_cons' (c : UInt8) (t : Bytes) : quoteIn (c :: t) = (if c.toNat == 10 then [92, 110] else if c.toNat == 34 || c.toNat == 92 then [92, c] else [c]) ++ quoteIn t := rfl

theorem u8ne {c : UInt8} {d : UInt8} : (c.toNat == d.toNat) = (c == d) := by
  rw [Bool.eq_iff_iff]; simp [UInt8.toNat_inj]

/-- What was cut as a text. -/
theorem quoted_form (p : Nat) (t : Tok) (n : Nat) : ∀ (m : Nat) (l acc : Bytes) (k : Nat), l.length ≤ m → quoted p l acc k = .ok t n →
    ∃ u x, l = quoteIn u ++ 34 :: x ∧ (∀ c ∈ u, saidB c = true) ∧ t = ⟨p, 5, acc ++ u, 0⟩ ∧ n = k + (quoteIn u).length + 1
  | m, [], acc, k, hm, h => by simp [quoted] at h
  | 0, c :: t', acc, k, hm, h => by simp at hm
  | m + 1, c :: t', acc, k, hm, h => by
    have hm' : t'.length ≤ m := by simpa using hm
    by_cases e34 : c = 34
    · subst e34
      simp [quoted] at h
      exact ⟨[], t', by simp [quoteIn], by simp, by simp [h.1], by simp [quoteIn, h.2]⟩
    · by_cases e92 : c = 92
      · subst e92
        cases t' with
        | nil => simp [quoted] at h
        | cons d t'' =>
          have hm2 : t''.length ≤ m := by simp at hm'; omega
          rw [quoted_esc] at h
          split at h
          · rename_i hd
            obtain ⟨u, x, e1, e2, e3, e4⟩ := quoted_form p t n m t'' _ _ hm2 h
            have hd' : d = 110 := UInt8.toNat_inj.1 (by simpa using hd)
            subst hd'
            refine ⟨10 :: u, x, ?_, ?_, ?_, ?_⟩
            · rw [quoteIn_cons', e1]; simp
            · intro c hc
              rcases List.mem_cons.1 hc with rfl | hc
              · rfl
              · exact e2 c hc
            · rw [e3]; simp
            · rw [quoteIn_cons', e4]; simp; omega
          · split at h
            · rename_i hn hd
              obtain ⟨u, x, e1, e2, e3, e4⟩ := quoted_form p t n m t'' _ _ hm2 h
              have h10 : (d.toNat == 10) = false := by
                simp only [Bool.or_eq_true, beq_iff_eq] at hd
                simp
                omega
              refine ⟨d :: u, x, ?_, ?_, ?_, ?_⟩
              · rw [quoteIn_cons', e1, h10, hd]; simp
              · intro c hc
                rcases List.mem_cons.1 hc with rfl | hc
                · simp only [Bool.or_eq_true, beq_iff_eq] at hd
                  unfold saidB
                  rcases hd with hd | hd <;> rw [hd] <;> rfl
                · exact e2 c hc
              · rw [e3]; simp
              · rw [quoteIn_cons', e4, h10, hd]; simp; omega
            · cases h
      · rw [quoted_byte p c t' acc k e34 e92] at h
        split at h
        · cases h
        · rename_i hc0
          obtain ⟨u, x, e1, e2, e3, e4⟩ := quoted_form p t n m t' _ _ hm' h
          have h34 : (c.toNat == 34) = false := by
            have := @u8ne c 34
            rw [show (34 : UInt8).toNat = 34 from rfl] at this
            rw [this]; simpa using e34
          have h92 : (c.toNat == 92) = false := by
            have := @u8ne c 92
            rw [show (92 : UInt8).toNat = 92 from rfl] at this
            rw [this]; simpa using e92
          have hr : 32 ≤ c.toNat ∧ c.toNat ≤ 126 := by
            simp only [Bool.or_eq_true, decide_eq_true_eq] at hc0
            omega
          have h10 : (c.toNat == 10) = false := by simp; omega
          refine ⟨c :: u, x, ?_, ?_, ?_, ?_⟩
          · rw [quoteIn_cons', e1, h10, h34, h92]; simp
          · intro d hd
            rcases List.mem_cons.1 hd with rfl | hd
            · unfold saidB; simp [hr]
            · exact e2 d hd
          · rw [e3]; simp
          · rw [quoteIn_cons', e4, h10, h34, h92]; simp; omega

theorem form_quoted (p : Nat) (x : Bytes) : ∀ (u acc : Bytes) (k : Nat), (∀ c ∈ u, saidB c = true) → quoted p (quoteIn u ++ 34 :: x) acc k = .ok ⟨p, 5, acc ++ u, 0⟩ (k + (quoteIn u).length + 1)
  | [], acc, k, _ => by simp [quoteIn, quoted]
  | c :: u, acc, k, h => by
    have hc := h c (List.mem_cons_self ..)
    have hu : ∀ c ∈ u, saidB c = true := fun d hd => h d (List.mem_cons_of_mem _ hd)
    rw [quoteIn_cons']
    by_cases h10 : (c.toNat == 10) = true
    · have hc' : c = 10 := UInt8.toNat_inj.1 (by simpa using h10)
      subst hc'
      show quoted p (92 :: 110 :: (quoteIn u ++ 34 :: x)) acc k = _
      rw [quoted_esc, if_pos (by rfl), form_quoted p x u _ _ hu]
      congr 1
      · simp
      · simp; omega
    · rw [if_neg h10]
      by_cases hq : (c.toNat == 34 || c.toNat == 92) = true
      · rw [if_pos hq]
        show quoted p (92 :: c :: (quoteIn u ++ 34 :: x)) acc k = _
        have hn : ¬ (c.toNat == 110) = true := by
          simp only [Bool.or_eq_true, beq_iff_eq] at hq ⊢
          omega
        rw [quoted_esc, if_neg hn, if_pos hq, form_quoted p x u _ _ hu]
        congr 1
        · simp
        · simp; omega
      · rw [if_neg hq]
        have e34 : c ≠ 34 := by rintro rfl; exact hq rfl
        have e92 : c ≠ 92 := by rintro rfl; exact hq rfl
        show quoted p (c :: (quoteIn u ++ 34 :: x)) acc k = _
        have hr : ¬ (decide (c.toNat < 32) || decide (126 < c.toNat)) = true := by
          unfold saidB at hc
          simp only [Bool.or_eq_true, Bool.and_eq_true, decide_eq_true_eq] at hc ⊢
          rcases hc with hc | hc
          · exact absurd hc h10
          · omega
        rw [quoted_byte p c _ acc k e34 e92, if_neg hr, form_quoted p x u _ _ hu]
        congr 1
        · simp
        · simp; omega

/-! ### a token's text -/
/-- A token without its place. -/
def Tok.bare (t : Tok) : Tok := { t with pos := 0 }

/-- 's' is the text of the token 't' (which has the place 0). -/
inductive Form : Bytes → Tok → Prop
  | name (c : UInt8) (s : Bytes) (hc : letter c = true) (hs : ∀ d ∈ c :: s, within d = true) (hl : (c :: s).length ≤ 32) : Form (c :: s) ⟨0, nameKind (c :: s), c :: s, 0⟩
  | number (c : UInt8) (s : Bytes) (hs : ∀ d ∈ c :: s, digit d = true) (hv : value (c :: s) ≤ 9223372036854775807) (hz : c = 48 → s = []) : Form (c :: s) ⟨0, 4, [], value (c :: s)⟩
  | text (u : Bytes) (hu : ∀ c ∈ u, saidB c = true) : Form (quote u) ⟨0, 5, u, 0⟩
  | two : Form [61, 61] ⟨0, 6, [61, 61], 0⟩
  | sign (c : UInt8) (hc : signs.contains c = true) : Form [c] ⟨0, 6, [c], 0⟩

/-- A rest that ends whatever stands ahead of it. -/
def Sep (x : Bytes) : Prop := ∀ c, x.head? = some c → within c = false ∧ c ≠ 61
/-- A rest that ends this one. -/
def After (s x : Bytes) (t : Tok) : Prop := (t.kind ≠ 5 → t.kind ≠ 6 → ∀ c, x.head? = some c → within c = false) ∧ (s = [61] → x.head? ≠ some 61)
theorem Sep.after {x : Bytes} (h : Sep x) (s : Bytes) (t : Tok) : After s x t := ⟨fun _ _ c hc => (h c hc).1, fun _ hc => (h 61 hc).2 rfl⟩
theorem sep_nil : Sep [] := fun c h => by cases h
theorem sep_cons {c : UInt8} {x : Bytes} (h1 : within c = false) (h2 : c ≠ 61) : Sep (c :: x) := fun d h => by injection h with h; subst h; exact ⟨h1, h2⟩

theorem takeWhile_all (f : UInt8 → Bool) : ∀ (s x : Bytes), (∀ c ∈ s, f c = true) → (∀ c, x.head? = some c → f c = false) → (s ++ x).takeWhile f = s
  | [], x, _, h => by
    cases x with
    | nil => rfl
    | cons c x => simp [List.takeWhile_cons, h c rfl]
  | a :: s, x, hs, h => by
    simp [List.takeWhile_cons, hs a (List.mem_cons_self ..), takeWhile_all f s x (fun c hc => hs c (List.mem_cons_of_mem _ hc)) h]
theorem takeWhile_split (f : UInt8 → Bool) : ∀ (l : Bytes), ∃ x, l = l.takeWhile f ++ x ∧ (∀ c ∈ l.takeWhile f, f c = true) ∧ (∀ c, x.head? = some c → f c = false)
  | [] => ⟨[], rfl, by simp, by simp⟩
  | a :: l => by
    by_cases ha : f a = true
    · obtain ⟨x, e1, e2, e3⟩ := takeWhile_split f l
      refine ⟨x, ?_, ?_, e3⟩
      · rw [List.takeWhile_cons, if_pos ha, List.cons_append, ← e1]
      · rw [List.takeWhile_cons, if_pos ha]
        intro c hc
        rcases List.mem_cons.1 hc with rfl | hc
        · exact ha
        · exact e2 c hc
    · refine ⟨a :: l, by rw [List.takeWhile_cons, if_neg ha]; rfl, by rw [List.takeWhile_cons, if_neg ha]; simp, ?_⟩
      intro c hc
      injection hc with hc
      subst hc
      simpa using ha

theorem digit_within {c : UInt8} (h : digit c = true) : within c = true := by simp [within, h]
theorem letter_within {c : UInt8} (h : letter c = true) : within c = true := by simp [within, h]
theorem letter_not_digit {c : UInt8} (h : letter c = true) : digit c = false := by
  simp only [letter, small, great, digit, Bool.or_eq_true, Bool.and_eq_true, decide_eq_true_eq] at *
  simp
  omega
theorem digit_not_letter {c : UInt8} (h : digit c = true) : letter c = false := by
  rw [← Bool.not_eq_true]
  intro h'
  rw [letter_not_digit h'] at h
  cases h
theorem sign_cases {c : UInt8} (h : signs.contains c = true) : letter c = false ∧ digit c = false ∧ (c.toNat == 34) = false ∧ c ≠ 47 ∧ blank c = false := by
  have : c = 40 ∨ c = 41 ∨ c = 123 ∨ c = 125 ∨ c = 59 ∨ c = 58 ∨ c = 44 ∨ c = 46 ∨ c = 61 ∨ c = 60 ∨ c = 43 ∨ c = 45 ∨ c = 42 := by simpa [signs] using h
  rcases this with rfl | rfl | rfl | rfl | rfl | rfl | rfl | rfl | rfl | rfl | rfl | rfl | rfl <;> decide

theorem form_cut {s x : Bytes} {t : Tok} (h : Form s t) (ha : After s x t) (p : Nat) : cut p (s ++ x) = .ok { t with pos := p } s.length := by
  cases h with
  | name c s hc hs hl =>
    have hk : nameKind (c :: s) ≠ 5 ∧ nameKind (c :: s) ≠ 6 := by
      unfold nameKind
      split
      · decide
      · split <;> decide
    have ht := takeWhile_all within (c :: s) x hs (ha.1 (by have := hk.1; show ((nameKind (c :: s) : Nat) : Int) ≠ 5; omega) (by have := hk.2; show ((nameKind (c :: s) : Nat) : Int) ≠ 6; omega))
    show cut p (c :: (s ++ x)) = _
    simp only [cut, hc, if_true, cutName]
    rw [show c :: (s ++ x) = (c :: s) ++ x from rfl, ht]
    rw [if_neg (by omega)]
  | number c s hs hv hz =>
    have hd := hs c (List.mem_cons_self ..)
    have hx := ha.1 (by simp) (by simp)
    have ht := takeWhile_all digit (c :: s) x hs (fun d hd' => by
      have := hx d hd'
      simp only [within, Bool.or_eq_false_iff] at this
      exact this.1.2)
    show cut p (c :: (s ++ x)) = _
    simp only [cut, digit_not_letter hd, hd, if_true, cutNumber, Bool.false_eq_true, if_false]
    rw [show c :: (s ++ x) = (c :: s) ++ x from rfl, ht]
    rw [if_neg]
    simp only [List.drop_left, Bool.or_eq_true, not_or, Bool.and_eq_true, decide_eq_true_eq]
    refine ⟨⟨by omega, ?_⟩, ?_⟩
    · rintro ⟨h1, h2⟩
      have : c = 48 := by simpa using h1
      rw [hz this] at h2
      simp at h2
    · cases hx' : x.head? with
      | none => simp
      | some d => simp [hx d hx']
  | text u hu =>
    show cut p (34 :: (quoteIn u ++ [34] ++ x)) = _
    have : cut p (34 :: (quoteIn u ++ [34] ++ x)) = quoted p (quoteIn u ++ [34] ++ x) [] 1 := rfl
    rw [this, show quoteIn u ++ [34] ++ x = quoteIn u ++ 34 :: x by simp, form_quoted p x u [] 1 hu]
    simp [quote]
    omega
  | two => rfl
  | sign c hc =>
    obtain ⟨h1, h2, h3, -⟩ := sign_cases hc
    show cut p (c :: x) = _
    simp only [cut, h1, h2, h3, Bool.false_eq_true, if_false]
    rw [if_neg]
    · rfl
    · simp only [Bool.and_eq_true, beq_iff_eq, not_and]
      intro h61
      have : c = 61 := UInt8.toNat_inj.1 h61
      subst this
      exact ha.2 rfl

theorem cut_form {p : Nat} {l : Bytes} {t : Tok} {n : Nat} (hb : ∀ c, l.head? = some c → begins c = true) (h : cut p l = .ok t n) :
    ∃ s x, l = s ++ x ∧ s.length = n ∧ Form s t.bare ∧ After s x t.bare ∧ t = { t.bare with pos := p } := by
  cases l with
  | nil => simp [cut] at h
  | cons b l =>
    have hb0 := hb b rfl
    simp only [cut] at h
    split at h
    · rename_i hl
      unfold cutName at h
      simp only at h
      obtain ⟨x, e1, e2, e3⟩ := takeWhile_split within (b :: l)
      have hcons : (b :: l).takeWhile within = b :: l.takeWhile within := by rw [List.takeWhile_cons, if_pos (letter_within hl)]
      rw [hcons] at e1 e2 h
      split at h
      · cases h
      · rename_i hle
        injection h with h1 h2
        subst h1
        exact ⟨_, x, e1, h2, .name b _ hl e2 (by omega), ⟨fun _ _ => e3, fun h61 hx => by
          injection h61 with h61 _
          subst h61
          cases hl⟩, rfl⟩
    · rename_i hl
      split at h
      · rename_i hd
        unfold cutNumber at h
        simp only at h
        obtain ⟨x, e1, e2, e3⟩ := takeWhile_split digit (b :: l)
        have hcons : (b :: l).takeWhile digit = b :: l.takeWhile digit := by rw [List.takeWhile_cons, if_pos hd]
        rw [hcons] at e1 e2 h
        split at h
        · cases h
        · rename_i hno
          injection h with h1 h2
          subst h1
          simp only [Bool.or_eq_true, not_or, Bool.and_eq_true, decide_eq_true_eq] at hno
          obtain ⟨⟨hv, hz⟩, hw⟩ := hno
          have hdrop : (b :: l).drop (b :: l.takeWhile digit).length = x := by
            conv => lhs; rw [e1]
            rw [List.drop_left]
          rw [hdrop] at hw
          refine ⟨_, x, e1, h2, .number b _ e2 (by omega) ?_, ⟨fun _ _ c hc => ?_, fun h61 hx => ?_⟩, rfl⟩
          · intro h48
            subst h48
            cases hts : l.takeWhile digit with
            | nil => rfl
            | cons => exact absurd ⟨rfl, by rw [hts]; simp⟩ hz
          · rw [hc] at hw
            simpa using hw
          · injection h61 with h61 _
            subst h61
            cases hd
      · rename_i hd
        split at h
        · rename_i h34
          have hb34 : b = 34 := UInt8.toNat_inj.1 (by simpa using h34)
          subst hb34
          obtain ⟨u, x, e1, e2, e3, e4⟩ := quoted_form p t n _ l [] 1 (Nat.le_refl _) h
          refine ⟨quote u, x, ?_, ?_, ?_, ?_, ?_⟩
          · rw [e1]; simp [quote]
          · rw [e4]; simp [quote]; omega
          · rw [e3]; exact .text u e2
          · refine ⟨fun h5 => absurd (by rw [e3]; rfl) h5, fun h61 => ?_⟩
            injection h61 with h61 _
            cases h61
          · rw [e3]; rfl
        · rename_i h34
          have hsg : signs.contains b = true := by
            unfold begins at hb0
            simp only [Bool.or_eq_true] at hb0
            rcases hb0 with ((h | h) | h) | h
            · exact absurd h hl
            · exact absurd h hd
            · exact absurd h h34
            · exact h
          split at h
          · rename_i h61
            injection h with h1 h2
            subst h1
            simp only [Bool.and_eq_true, beq_iff_eq] at h61
            have hb61 : b = 61 := UInt8.toNat_inj.1 h61.1
            subst hb61
            cases l with
            | nil => cases h61.2
            | cons d l =>
              have : d = 61 := by simpa using h61.2
              subst this
              exact ⟨[61, 61], l, rfl, h2, .two, ⟨fun _ h6 => absurd rfl h6, fun he => by cases he⟩, rfl⟩
          · rename_i h61
            injection h with h1 h2
            subst h1
            refine ⟨[b], l, rfl, h2, .sign b hsg, ⟨fun _ h6 => absurd rfl h6, fun he hx => ?_⟩, rfl⟩
            injection he with he
            subst he
            exact h61 (by simp [hx])

/-! ### decimal digits -/
theorem decDigits_step (u : Nat) (h : 10 ≤ u) : Lib.decDigits u = Lib.decDigits (u / 10) ++ [UInt8.ofNat (48 + u % 10)] := by
  conv => lhs; rw [Lib.decDigits, dif_neg (by omega)]
theorem digit_back {c : UInt8} (h : digit c = true) : UInt8.ofNat (48 + (c.toNat - 48)) = c := by
  simp only [digit, Bool.and_eq_true, decide_eq_true_eq] at h
  rw [show 48 + (c.toNat - 48) = c.toNat by omega]
  exact UInt8.ofNat_toNat
theorem decDigits_fold : ∀ (l : Bytes) (v : Nat), 1 ≤ v → (∀ c ∈ l, digit c = true) → Lib.decDigits (l.foldl (fun v c => v * 10 + (c.toNat - 48)) v) = Lib.decDigits v ++ l
  | [], v, _, _ => by simp
  | c :: l, v, hv, hl => by
    have hc := hl c (List.mem_cons_self ..)
    have hc' := hc
    simp only [digit, Bool.and_eq_true, decide_eq_true_eq] at hc'
    rw [List.foldl_cons, decDigits_fold l _ (by omega) (fun d hd => hl d (List.mem_cons_of_mem _ hd)), decDigits_step _ (by omega)]
    rw [show (v * 10 + (c.toNat - 48)) / 10 = v by omega, show (v * 10 + (c.toNat - 48)) % 10 = c.toNat - 48 by omega, digit_back hc]
    simp
theorem decDigits_value {c : UInt8} {s : Bytes} (hs : ∀ d ∈ c :: s, digit d = true) (hz : c = 48 → s = []) : Lib.decDigits (value (c :: s)) = c :: s := by
  have hc := hs c (List.mem_cons_self ..)
  have hc' := hc
  simp only [digit, Bool.and_eq_true, decide_eq_true_eq] at hc'
  have h1 : Lib.decDigits (c.toNat - 48) = [c] := by rw [Lib.decDigits_one (by omega), digit_back hc]
  unfold value
  rw [List.foldl_cons, show 0 * 10 + (c.toNat - 48) = c.toNat - 48 by omega]
  by_cases h48 : c = 48
  · rw [hz h48]; exact h1
  · have : c.toNat ≠ 48 := fun e => h48 (UInt8.toNat_inj.1 e)
    rw [decDigits_fold s _ (by omega) (fun d hd => hs d (List.mem_cons_of_mem _ hd)), h1]
    rfl
/-- The digits of a number: digits, no nought ahead, and their value. -/
theorem decDigits_form (u : Nat) : ∃ c s, Lib.decDigits u = c :: s ∧ (∀ d ∈ c :: s, digit d = true) ∧ value (c :: s) = u ∧ (c = 48 → s = [] ∧ u = 0) := by
  induction u using Nat.strongRecOn with
  | _ u ih =>
    have hd : ∀ m, m < 10 → digit (UInt8.ofNat (48 + m)) = true ∧ (UInt8.ofNat (48 + m)).toNat = 48 + m := by
      intro m hm
      have : (UInt8.ofNat (48 + m)).toNat = 48 + m := by rw [UInt8.toNat_ofNat', Nat.mod_eq_of_lt (by omega)]
      refine ⟨?_, this⟩
      simp only [digit, this, Bool.and_eq_true, decide_eq_true_eq]
      omega
    by_cases h : u < 10
    · refine ⟨UInt8.ofNat (48 + u), [], Lib.decDigits_one h, ?_, ?_, ?_⟩
      · intro d hd'
        rw [List.mem_singleton] at hd'
        subst hd'
        exact (hd u h).1
      · unfold value
        rw [List.foldl_cons, List.foldl_nil, (hd u h).2]
        omega
      · intro e
        refine ⟨rfl, ?_⟩
        have := (hd u h).2
        rw [e] at this
        have h48 : (48 : UInt8).toNat = 48 := rfl
        omega
    · obtain ⟨c, s, e1, e2, e3, e4⟩ := ih (u / 10) (by omega)
      refine ⟨c, s ++ [UInt8.ofNat (48 + u % 10)], ?_, ?_, ?_, ?_⟩
      · rw [decDigits_step u (by omega), e1]; simp
      · intro d hd'
        rw [← List.cons_append, List.mem_append] at hd'
        rcases hd' with hd' | hd'
        · exact e2 d hd'
        · rw [List.mem_singleton] at hd'
          subst hd'
          exact (hd _ (by omega)).1
      · rw [← List.cons_append]
        unfold value at e3 ⊢
        rw [List.foldl_append, e3]
        rw [List.foldl_cons, List.foldl_nil, (hd (u % 10) (by omega)).2]
        omega
      · intro e
        have := (e4 e).2
        omega

/-! ### written -/
theorem form_begins {s : Bytes} {t : Tok} (h : Form s t) : ∃ c l, s = c :: l ∧ begins c = true := by
  cases h with
  | name c s hc _ _ => exact ⟨c, s, rfl, by simp [begins, hc]⟩
  | number c s hs _ _ => exact ⟨c, s, rfl, by simp [begins, hs c (List.mem_cons_self ..)]⟩
  | text u _ => exact ⟨34, _, rfl, rfl⟩
  | two => exact ⟨61, _, rfl, rfl⟩
  | sign c hc => exact ⟨c, [], rfl, by simp only [begins, hc, Bool.or_true]⟩
theorem form_raw {s : Bytes} {t : Tok} (h : Form s t) : raw t = some s := by
  cases h with
  | name c s hc hs hl =>
    unfold raw
    rw [if_pos]
    unfold nameKind
    split
    · simp
    · split <;> simp
  | number c s hs hv hz =>
    unfold raw
    rw [if_neg (by simp), if_pos rfl, if_neg (by simp)]
    show some (Lib.decDigits (value (c :: s))) = _
    rw [decDigits_value hs hz]
  | text u hu => rfl
  | two => rfl
  | sign c hc => rfl
theorem raw_bare (t : Tok) : raw t.bare = raw t := rfl
theorem form_pos {s : Bytes} {t : Tok} (h : Form s t) : t.pos = 0 := by cases h <;> rfl
theorem written_of_form {s : Bytes} {t : Tok} (h : Form s t.bare) : written t = (s, true) := by
  have hr := form_raw h
  obtain ⟨c, l, rfl, hb⟩ := form_begins h
  rw [raw_bare] at hr
  have hc := form_cut h (sep_nil.after _ _) 0
  rw [List.append_nil] at hc
  unfold written
  rw [hr]
  simp only [hb, if_true, held, hc]
  simp [Tok.bare]
theorem form_of_written {t : Tok} (h : (written t).2 = true) : Form (written t).1 t.bare := by
  unfold written at h ⊢
  cases hr : raw t with
  | none => rw [hr] at h; cases h
  | some s =>
    rw [hr] at h
    cases s with
    | nil => cases h
    | cons c l =>
      simp only at h ⊢
      by_cases hb : begins c = true
      · rw [if_pos hb] at h ⊢
        unfold held at h
        cases hcut : cut 0 (c :: l) with
        | bad y x => simp [hcut] at h
        | ok x n =>
          simp only [hcut, Bool.and_eq_true, beq_iff_eq] at h
          obtain ⟨s, x', e1, e2, e3, e4, e5⟩ := cut_form (fun d hd => by injection hd with hd; subst hd; exact hb) hcut
          have hx : x' = [] := by
            have := congrArg List.length e1
            rw [List.length_append] at this
            exact List.length_eq_zero_iff.1 (by omega)
          rw [hx, List.append_nil] at e1
          rw [e1]
          have : x.bare = t.bare := by rw [h.2]; rfl
          rw [← this]
          exact e3
      · rw [if_neg hb] at h
        cases h

end Go.Proofs.YtbhdkkkaeabkhaaGreatDoor.Lx

namespace Go.Proofs.YtbhdkkkaeabkhaaGreatDoor.Lx
open Go

/-! ### blanks -/
theorem skip_app (x : Bytes) (c : UInt8) (r : Bytes) (h47 : c ≠ 47) : ∀ (m : Bool) (l : Bytes), skip m l = c :: r → skip m (l ++ x) = c :: (r ++ x)
  | m, [], h => by rw [skip_end] at h; cases h
  | false, a :: t, h => by
    unfold skip at h
    rw [List.cons_append]
    split at h
    · rename_i hb
      rw [skip_blank hb]
      exact skip_app x c r h47 false t h
    · rename_i hb
      have hb' : blank a = false := by simpa using hb
      split at h
      · rename_i hr
        simp only [Bool.and_eq_true, beq_iff_eq] at hr
        have hh : (t ++ x).head? = some 47 := by rw [List.head?_append, hr.2]; rfl
        rw [skip_remark hb' hr.1 hh]
        exact skip_app x c r h47 true t h
      · injection h with h1 h2
        subst h1; subst h2
        rw [skip_stays hb']
        rintro ⟨h1, -⟩
        exact h47 (UInt8.toNat_inj.1 h1)
  | true, a :: t, h => by
    unfold skip at h
    rw [List.cons_append]
    split at h
    · rename_i hb
      have hb' : a.toNat = 10 := by simpa using hb
      have h10 : skip true (a :: (t ++ x)) = skip false (t ++ x) := by simp [skip, hb']
      rw [h10]
      exact skip_app x c r h47 false t h
    · rename_i hb
      rw [skip_within (by simpa using hb)]
      exact skip_app x c r h47 true t h
theorem skip_nil_app (x : Bytes) : ∀ (m : Bool) (l : Bytes), skip m l = [] → skip m (l ++ 10 :: x) = skip false x
  | false, [], _ => by rw [List.nil_append, skip_blank (by rfl)]
  | true, [], _ => by simp [skip]
  | false, a :: t, h => by
    unfold skip at h
    rw [List.cons_append]
    split at h
    · rename_i hb
      rw [skip_blank hb]
      exact skip_nil_app x false t h
    · rename_i hb
      have hb' : blank a = false := by simpa using hb
      split at h
      · rename_i hr
        simp only [Bool.and_eq_true, beq_iff_eq] at hr
        have hh : (t ++ 10 :: x).head? = some 47 := by rw [List.head?_append, hr.2]; rfl
        rw [skip_remark hb' hr.1 hh]
        exact skip_nil_app x true t h
      · cases h
  | true, a :: t, h => by
    unfold skip at h
    rw [List.cons_append]
    split at h
    · rename_i hb
      have hb' : a.toNat = 10 := by simpa using hb
      have h10 : skip true (a :: (t ++ 10 :: x)) = skip false (t ++ 10 :: x) := by simp [skip, hb']
      rw [h10]
      exact skip_nil_app x false t h
    · rename_i hb
      rw [skip_within (by simpa using hb)]
      exact skip_nil_app x true t h
/-- What was skipped is blanks and remarks. -/
theorem skip_piece : ∀ (m : Bool) (l : Bytes), skip m (l.take (l.length - (skip m l).length)) = []
  | m, [] => by simp [skip_end]
  | false, a :: t => by
    by_cases hb : blank a = true
    · rw [skip_blank hb, List.length_cons, show t.length + 1 - (skip false t).length = (t.length - (skip false t).length) + 1 by have := skip_le false t; omega, List.take_succ_cons, skip_blank hb]
      exact skip_piece false t
    · have hb' : blank a = false := by simpa using hb
      by_cases hr : a.toNat = 47 ∧ t.head? = some 47
      · rw [skip_remark hb' hr.1 hr.2, List.length_cons, show t.length + 1 - (skip true t).length = (t.length - (skip true t).length) + 1 by have := skip_le true t; omega, List.take_succ_cons]
        cases t with
        | nil => cases hr.2
        | cons d t =>
          have hd : d = 47 := by simpa using hr.2
          subst hd
          have hlt : (skip true (47 :: t)).length ≤ t.length := by rw [skip_within (by decide)]; exact skip_le true t
          rw [skip_remark hb' hr.1]
          · exact skip_piece true (47 :: t)
          · rw [List.length_cons, show t.length + 1 - (skip true (47 :: t)).length = (t.length - (skip true (47 :: t)).length) + 1 by omega, List.take_succ_cons]
            rfl
      · rw [skip_stays hb' hr]
        simp [skip_end]
  | true, a :: t => by
    by_cases hb : a.toNat = 10
    · have h10 : ∀ t, skip true (a :: t) = skip false t := fun t => by simp [skip, hb]
      rw [h10, List.length_cons, show t.length + 1 - (skip false t).length = (t.length - (skip false t).length) + 1 by have := skip_le false t; omega, List.take_succ_cons, h10]
      exact skip_piece false t
    · rw [skip_within hb, List.length_cons, show t.length + 1 - (skip true t).length = (t.length - (skip true t).length) + 1 by have := skip_le true t; omega, List.take_succ_cons, skip_within hb]
      exact skip_piece true t

theorem begins_not {c : UInt8} (h : begins c = true) : blank c = false ∧ c ≠ 47 := by
  unfold begins at h
  simp only [Bool.or_eq_true] at h
  have key : ∀ n : Nat, c.toNat = n → (n ≠ 9 ∧ n ≠ 10 ∧ n ≠ 13 ∧ n ≠ 32 ∧ n ≠ 47) → blank c = false ∧ c ≠ 47 := by
    rintro n hn ⟨h1, h2, h3, h4, h5⟩
    refine ⟨?_, ?_⟩
    · unfold blank
      simp only [hn, Bool.or_eq_false_iff, beq_eq_false_iff_ne]
      exact ⟨⟨⟨h1, h2⟩, h3⟩, h4⟩
    · rintro rfl
      exact h5 hn.symm
  rcases h with ((h | h) | h) | h
  · simp only [letter, small, great, Bool.or_eq_true, Bool.and_eq_true, decide_eq_true_eq] at h
    exact key _ rfl (by omega)
  · simp only [digit, Bool.and_eq_true, decide_eq_true_eq] at h
    exact key _ rfl (by omega)
  · simp only [beq_iff_eq] at h
    exact key _ rfl (by omega)
  · exact ⟨(sign_cases h).2.2.2.2, (sign_cases h).2.2.2.1⟩
theorem skip_begins {c : UInt8} {l : Bytes} (h : begins c = true) : skip false (c :: l) = c :: l := skip_stays (begins_not h).1 (fun e => (begins_not h).2 (UInt8.toNat_inj.1 e.1))

/-! ### one round -/
theorem go_nil {f p i : Nat} {l : Bytes} (h : skip false l = []) : go (f + 1) p i l = ([], none) := by
  simp [go, h]
theorem go_tok {f p i : Nat} {l s x : Bytes} {t : Tok} (hs : skip false l = s ++ x) (hf : Form s t) (ha : After s x t) (hi : i ≠ 4096) :
    go (f + 1) p i l = ({ t with pos := ((p + (l.length - (s ++ x).length) : Nat) : Int) } :: (go f (p + (l.length - (s ++ x).length) + s.length) (i + 1) x).1, (go f (p + (l.length - (s ++ x).length) + s.length) (i + 1) x).2) := by
  obtain ⟨c, r, e, hb⟩ := form_begins hf
  have hcut := form_cut hf ha (p + (l.length - (s ++ x).length))
  rw [go]
  simp only [hs]
  rw [e, List.cons_append] at *
  simp only [hb, Bool.not_true, Bool.false_eq_true, if_false, hi, beq_iff_eq]
  rw [hcut]
  simp only
  rw [show (c :: (r ++ x)).drop (c :: r).length = x from List.drop_left (l₁ := c :: r)]
theorem go_inv {f p i : Nat} {l : Bytes} {ts : List Tok} (h : go (f + 1) p i l = (ts, none)) : (skip false l = [] ∧ ts = []) ∨
    ∃ s x t ts', skip false l = s ++ x ∧ Form s t ∧ After s x t ∧ i ≠ 4096 ∧ ts = { t with pos := ((p + (l.length - (s ++ x).length) : Nat) : Int) } :: ts' ∧ go f (p + (l.length - (s ++ x).length) + s.length) (i + 1) x = (ts', none) := by
  rw [go] at h
  simp only at h
  split at h
  · rename_i hr
    injection h with h1 h2
    exact .inl ⟨hr, h1.symm⟩
  · rename_i b r hr
    right
    by_cases hb : begins b = true
    · rw [hb] at h
      simp only [Bool.not_true, Bool.false_eq_true, if_false] at h
      by_cases hi : i = 4096
      · simp [hi] at h
      · simp only [beq_iff_eq, hi, if_false] at h
        split at h
        · injection h with h1 h2; cases h2
        · rename_i t n hcut
          rw [hr] at hcut
          obtain ⟨s, x, e1, e2, e3, e4, e5⟩ := cut_form (fun d hd => by injection hd with hd; subst hd; exact hb) hcut
          subst e2
          rw [hr, e1] at h
          rw [List.drop_left] at h
          injection h with h1 h2
          refine ⟨s, x, t.bare, _, by rw [hr, e1], e3, e4, hi, ?_, Prod.ext rfl h2⟩
          rw [← h1]
          congr 1
          rw [e5]
          rw [e1]
          rfl
    · simp [hb] at h

theorem form_len {s : Bytes} {t : Tok} (h : Form s t) : 0 < s.length := by
  obtain ⟨c, r, e, -⟩ := form_begins h
  rw [e]; simp
/-- More fuel changes nothing; nor does what was skipped ahead. -/
theorem go_fuel : ∀ (f f' p i : Nat) (l : Bytes), l.length < f → l.length < f' → go f p i l = go f' p i l
  | 0, _, _, _, _, h, _ => by omega
  | _, 0, _, _, _, _, h => by omega
  | f + 1, f' + 1, p, i, l, h, h' => by
    rw [go, go]
    simp only
    have hl := skip_le false l
    split
    · rfl
    · rename_i b r hr
      split
      · rfl
      · split
        · rfl
        · split
          · rfl
          · rename_i t n hcut
            obtain ⟨h1, h2⟩ := cut_len hcut
            rw [go_fuel f f' _ _ _ (by rw [List.length_drop]; omega) (by rw [List.length_drop]; omega)]
theorem go_ahead {f f' p p' i : Nat} {l l' : Bytes} (hs : skip false l = skip false l') (hp : p + (l.length - (skip false l).length) = p' + (l'.length - (skip false l').length)) (h : l.length < f) (h' : l'.length < f') : go f p i l = go f' p' i l' := by
  cases f with
  | zero => omega
  | succ f =>
    cases f' with
    | zero => omega
    | succ f' =>
      have hl := skip_le false l
      have hl' := skip_le false l'
      rw [go, go]
      simp only
      rw [hp, hs]
      split
      · rfl
      · rename_i b r hr
        rw [hs] at hl
        split
        · rfl
        · split
          · rfl
          · split
            · rfl
            · rename_i t n hcut
              obtain ⟨h1, h2⟩ := cut_len hcut
              rw [go_fuel f f' _ _ _ (by rw [List.length_drop]; omega) (by rw [List.length_drop]; omega)]

/-! ### a rest behind a line's end -/
theorem sep_line (b : Bytes) : Sep (10 :: b) := sep_cons (by decide) (by decide)
theorem After.line {s x : Bytes} {t : Tok} (h : After s x t) {y : Bytes} (hy : Sep y) : After s (x ++ y) t := by
  cases x with
  | nil => exact hy.after _ _
  | cons c x => exact h
theorem go_append (b : Bytes) : ∀ (f p i : Nat) (a : Bytes) (xs : List Tok), go f p i a = (xs, none) → a.length < f →
    go (f + b.length + 1) p i (a ++ 10 :: b) = (xs ++ (go (b.length + 1) (p + a.length + 1) (i + xs.length) b).1, (go (b.length + 1) (p + a.length + 1) (i + xs.length) b).2)
  | 0, _, _, _, _, _, h => by omega
  | f + 1, p, i, a, xs, h, hl => by
    rcases go_inv h with ⟨hs, rfl⟩ | ⟨s, x, t, ts', hs, hf, ha, hi, rfl, hg⟩
    · have hk := skip_nil_app b false a hs
      have hkl := skip_le false b
      rw [go_ahead (f' := b.length + 1) (p' := p + a.length + 1) (l' := b) hk (by rw [hk, List.length_append, List.length_cons]; omega) (by rw [List.length_append, List.length_cons]; omega) (by omega)]
      simp
    · obtain ⟨c, r, e, hb⟩ := form_begins hf
      have hsl := form_len hf
      have hle := skip_le false a
      rw [hs, List.length_append] at hle
      have hk : skip false (a ++ 10 :: b) = s ++ (x ++ 10 :: b) := by
        rw [e, List.cons_append] at hs
        rw [skip_app (10 :: b) c (r ++ x) (begins_not hb).2 false a hs, e]
        simp
      have ih := go_append b f _ (i + 1) x ts' hg (by omega)
      rw [show f + 1 + b.length + 1 = (f + b.length + 1) + 1 by omega, go_tok hk hf (ha.line (sep_line b)) hi]
      have hq : p + ((a ++ 10 :: b).length - (s ++ (x ++ 10 :: b)).length) = p + (a.length - (s ++ x).length) := by
        simp only [List.length_append, List.length_cons]
        omega
      rw [hq, ih]
      have hp2 : p + (a.length - (s ++ x).length) + s.length + x.length + 1 = p + a.length + 1 := by
        rw [List.length_append]
        omega
      rw [hp2, List.length_cons, show i + 1 + ts'.length = i + (ts'.length + 1) by omega]
      rfl
/-- Tokens at another place, behind others. -/
theorem go_shift : ∀ (f p i : Nat) (l : Bytes) (ts : List Tok), go f p i l = (ts, none) → ∀ p' i' : Nat, i' + ts.length ≤ 4096 → go f p' i' l = (ts.map fun t => { t with pos := t.pos - p + p' }, none)
  | 0, p, i, l, ts, h, p', i', _ => by
    rw [go] at h ⊢
    injection h with h1 h2
    subst h1
    rfl
  | f + 1, p, i, l, ts, h, p', i', hc => by
    rcases go_inv h with ⟨hs, rfl⟩ | ⟨s, x, t, ts', hs, hf, ha, hi, rfl, hg⟩
    · rw [go_nil hs]; rfl
    · rw [List.length_cons] at hc
      rw [go_tok hs hf ha (by omega), go_shift f _ _ x ts' hg _ (i' + 1) (by omega)]
      simp only [List.map_cons, Prod.mk.injEq, and_true, List.cons.injEq]
      refine ⟨?_, ?_⟩
      · congr 1
        omega
      · apply List.map_congr_left
        intro u _
        congr 1
        omega

/-! ### what every cut token is -/
/-- Each token has its place, its own text stands there; blanks and remarks alone between. 'l' is what stands from the place 'p' on. -/
theorem go_parts : ∀ (f p i : Nat) (l : Bytes) (ts : List Tok), go f p i l = (ts, none) → i ≤ 4096 → i + ts.length ≤ 4096 ∧ ∀ t ∈ ts, Form (written t).1 t.bare ∧ (written t).2 = true ∧ (written t).1.length ≤ l.length ∧ (p : Int) ≤ t.pos ∧ t.pos < p + l.length
  | 0, p, i, l, ts, h, hi => by
    rw [go] at h
    injection h with h1 h2
    subst h1
    exact ⟨by simpa using hi, by simp⟩
  | f + 1, p, i, l, ts, h, hi => by
    rcases go_inv h with ⟨hs, rfl⟩ | ⟨s, x, t, ts', hs, hf, ha, hi', rfl, hg⟩
    · exact ⟨by simpa using hi, by simp⟩
    · obtain ⟨h1, h2⟩ := go_parts f _ _ x ts' hg (by omega)
      have hle := skip_le false l
      have hsl := form_len hf
      rw [hs, List.length_append] at hle
      refine ⟨by rw [List.length_cons]; omega, ?_⟩
      intro u hu
      rcases List.mem_cons.1 hu with rfl | hu
      · have hb : Tok.bare { t with pos := ((p + (l.length - (s ++ x).length) : Nat) : Int) } = t := by
          have := form_pos hf
          cases t
          simp only [Tok.bare] at *
          subst this
          rfl
        have hw := written_of_form (t := { t with pos := ((p + (l.length - (s ++ x).length) : Nat) : Int) }) (s := s) (by rw [hb]; exact hf)
        rw [hw, hb]
        refine ⟨hf, rfl, by simp only; omega, by simp only; omega, ?_⟩
        simp only [List.length_append]
        omega
      · obtain ⟨a1, a2, a3, a4, a5⟩ := h2 u hu
        rw [List.length_append] at a4 a5
        exact ⟨a1, a2, by omega, by omega, by omega⟩

/-! ### join -/
theorem joinFrom_len : ∀ (ts : List Tok) (i : Nat) (b b' : Bytes), joinFrom i b ts = some b' → b.length ≤ b'.length ∧ ∀ t ∈ ts, (written t).2 = true
  | [], i, b, b', h => by
    unfold joinFrom at h
    injection h with h
    subst h
    exact ⟨Nat.le_refl _, by simp⟩
  | t :: ts, i, b, b', h => by
    unfold joinFrom at h
    split at h
    · rename_i hw
      obtain ⟨h1, h2⟩ := joinFrom_len ts _ _ _ h
      refine ⟨Nat.le_trans ?_ h1, ?_⟩
      · unfold joinStep
        split
        · exact Nat.le_refl _
        · split <;> simp <;> omega
      · intro u hu
        rcases List.mem_cons.1 hu with rfl | hu
        · exact hw
        · exact h2 u hu
    · cases h
/-- The tokens' texts, a blank ahead of each but the first. -/
def sepFrom : Nat → List Tok → Bytes
  | _, [] => []
  | i, t :: l => (if 0 < i then [32] else []) ++ ((written t).1 ++ sepFrom (i + 1) l)
theorem sepFrom_cons (i : Nat) (t : Tok) (l : List Tok) : sepFrom i (t :: l) = (if 0 < i then [32] else []) ++ ((written t).1 ++ sepFrom (i + 1) l) := rfl
theorem joinFrom_sep : ∀ (ts : List Tok) (i : Nat) (b b' : Bytes), joinFrom i b ts = some b' → b'.length ≤ 65536 → b' = b ++ sepFrom i ts
  | [], i, b, b', h, _ => by
    unfold joinFrom at h
    injection h with h
    subst h
    simp [sepFrom]
  | t :: ts, i, b, b', h, hl => by
    unfold joinFrom at h
    split at h
    · have hb : b.length ≤ 65536 := by
        have h1 := (joinFrom_len ts _ _ _ h).1
        unfold joinStep at h1
        split at h1
        · omega
        · split at h1 <;> simp at h1 <;> omega
      have := joinFrom_sep ts _ _ _ h hl
      rw [this, sepFrom_cons]
      unfold joinStep
      rw [if_neg (by omega)]
      split <;> simp
    · cases h
theorem sep_sepFrom (i : Nat) (ts : List Tok) (hi : 0 < i) : Sep (sepFrom i ts) := by
  cases ts with
  | nil => exact sep_nil
  | cons t ts =>
    unfold sepFrom
    rw [if_pos hi]
    exact sep_cons (by decide) (by decide)
theorem go_sep : ∀ (ts : List Tok) (i f p : Nat), (∀ t ∈ ts, (written t).2 = true) → i + ts.length ≤ 4096 → (sepFrom i ts).length < f →
    (go f p i (sepFrom i ts)).1.map Tok.bare = ts.map Tok.bare ∧ (go f p i (sepFrom i ts)).2 = none
  | ts, i, 0, p, _, _, h => by omega
  | [], i, f + 1, p, _, _, _ => by
    rw [go_nil (by unfold sepFrom; exact skip_end _)]
    exact ⟨rfl, rfl⟩
  | t :: ts, i, f + 1, p, hw, hc, hl => by
    have hf := form_of_written (hw t (List.mem_cons_self ..))
    obtain ⟨c, r, e, hb⟩ := form_begins hf
    have hsl := form_len hf
    have hs : skip false (sepFrom i (t :: ts)) = (written t).1 ++ sepFrom (i + 1) ts := by
      rw [sepFrom_cons, e]
      split
      · show skip false (32 :: (c :: (r ++ sepFrom (i + 1) ts))) = _
        rw [skip_blank (by rfl), skip_begins hb]; rfl
      · show skip false (c :: (r ++ sepFrom (i + 1) ts)) = _
        rw [skip_begins hb]; rfl
    rw [List.length_cons] at hc
    have hl' : (sepFrom (i + 1) ts).length < f := by
      have h1 : (sepFrom i (t :: ts)).length = (if 0 < i then [32] else [] : Bytes).length + ((written t).1.length + (sepFrom (i + 1) ts).length) := by rw [sepFrom, List.length_append, List.length_append]
      omega
    obtain ⟨h1, h2⟩ := go_sep ts (i + 1) f (p + ((sepFrom i (t :: ts)).length - ((written t).1 ++ sepFrom (i + 1) ts).length) + (written t).1.length) (fun u hu => hw u (List.mem_cons_of_mem _ hu)) (by omega) hl'
    rw [go_tok hs hf ((sep_sepFrom (i + 1) ts (by omega)).after _ _) (by omega)]
    exact ⟨by simp only [List.map_cons, h1]; rfl, h2⟩
/-- What is joined is cut into the same tokens. -/
theorem join_back {ts : List Tok} {b : Bytes} (h : join ts = (b, 0)) : (toks b).1.map Tok.bare = ts.map Tok.bare ∧ (toks b).2 = none := by
  unfold join at h
  split at h
  · injection h with h1 h2; cases h2
  · rename_i b' hj
    split at h
    · injection h with h1 h2; cases h2
    · rename_i hb
      split at h
      · injection h with h1 h2; cases h2
      · rename_i hc
        injection h with h1 h2
        subst h1
        have he := joinFrom_sep ts 0 [] b' hj (by omega)
        rw [List.nil_append] at he
        unfold toks
        rw [if_neg hb, he]
        exact go_sep ts 0 _ 0 (joinFrom_len ts _ _ _ hj).2 (by omega) (by omega)
theorem join_written : ∀ (ts : List Tok) (i : Nat) (b : Bytes), (∀ t ∈ ts, (written t).2 = true) → ∃ b', joinFrom i b ts = some b'
  | [], i, b, _ => ⟨b, rfl⟩
  | t :: ts, i, b, h => by
    unfold joinFrom
    rw [if_pos (h t (List.mem_cons_self ..))]
    exact join_written ts _ _ (fun u hu => h u (List.mem_cons_of_mem _ hu))
/-- What was cut can be joined, if it isn't too long. -/
theorem toks_join {src : Bytes} {ts : List Tok} (h : toks src = (ts, none)) : (join ts).2 = 0 ∨ (join ts).2 = 2 := by
  unfold toks at h
  split at h
  · injection h with h1 h2; cases h2
  · obtain ⟨hc, hp⟩ := go_parts _ _ _ _ _ h (by omega)
    obtain ⟨b', hj⟩ := join_written ts 0 [] (fun t ht => (hp t ht).2.1)
    unfold join
    rw [hj]
    simp only
    split
    · exact .inr rfl
    · rw [if_neg (by omega)]
      exact .inl rfl
/-- One token joined. -/
theorem join_one {t : Tok} (h : (written t).2 = true) (hl : (written t).1.length ≤ 65536) : join [t] = ((written t).1, 0) := by
  have hj : joinFrom 0 [] [t] = some ((written t).1) := by
    unfold joinFrom
    rw [if_pos h]
    unfold joinFrom joinStep
    simp
  unfold join
  rw [hj]
  simp only
  rw [if_neg (by omega), if_neg (by simp)]
theorem join_one_bad {t : Tok} (h : (written t).2 = false) : join [t] = ([], 1) := by
  have hj : joinFrom 0 [] [t] = none := by
    unfold joinFrom
    rw [if_neg (by simp [h])]
  unfold join
  rw [hj]

end Go.Proofs.YtbhdkkkaeabkhaaGreatDoor.Lx

namespace Go.Proofs.YtbhdkkkaeabkhaaGreatDoor.Lx
open Go
set_option linter.unusedSimpArgs false

theorem all_step {α : Type} (f : α → Bool) (l : List α) (m : Nat) (h : m < l.length) : (l.take (m + 1)).all f = ((l.take m).all f && f l[m]) := by
  rw [List.take_succ_eq_append_getElem h, List.all_append]
  simp

/-- A text that is one token. -/
theorem toks_one {s : Bytes} {t : Tok} (h : Form s t) (hl : s.length ≤ 65536) : toks s = ([t], none) := by
  obtain ⟨c, r, e, hb⟩ := form_begins h
  have hs : skip false s = s ++ [] := by rw [e, skip_begins hb, List.append_nil]
  unfold toks
  rw [if_neg (by omega), go_tok hs h (sep_nil.after _ _) (by decide)]
  have hp := form_pos h
  obtain ⟨f, hf⟩ : ∃ f, s.length = f + 1 := ⟨s.length - 1, by rw [e]; simp⟩
  rw [List.append_nil, Nat.sub_self, hf, go_nil (skip_end _)]
  cases t
  simp only at hp
  subst hp
  rfl

/-! ### texts -/
theorem nameKind_le (s : Bytes) : 1 ≤ nameKind s ∧ nameKind s ≤ 3 := by
  unfold nameKind
  split
  · decide
  · split <;> decide
theorem form_said {q : Bytes} {t : Tok} (h : Form q t) (hk : t.kind = 5) : ∀ c ∈ t.s, saidB c = true := by
  cases h with
  | name c s _ _ _ =>
    have := nameKind_le (c :: s)
    simp only at hk
    omega
  | number => cases hk
  | text u hu => exact hu
  | two => cases hk
  | sign => cases hk
theorem text_written (s : Bytes) : (written ⟨0, 5, s, 0⟩).2 = s.all saidB := by
  rw [Bool.eq_iff_iff]
  constructor
  · intro h
    have hf := form_of_written h
    have hb : (Tok.bare ⟨0, 5, s, 0⟩) = ⟨0, 5, s, 0⟩ := rfl
    rw [hb] at hf
    generalize (written ⟨0, 5, s, 0⟩).1 = q at hf
    rw [List.all_eq_true]
    exact form_said hf rfl
  · intro h
    have hf : Form (quote s) (Tok.bare ⟨0, 5, s, 0⟩) := .text s (List.all_eq_true.1 h)
    rw [written_of_form hf]
theorem quote_len (s : Bytes) : (quote s).length ≤ 2 * s.length + 2 := by
  have := quoteIn_len s
  simp [quote]
  omega
/-- Any text that may stand in one is quoted and cut back. -/
theorem text_law (s : Bytes) (hl : s.length ≤ 1000) : if s.all saidB then join [⟨0, 5, s, 0⟩] = (quote s, 0) ∧ toks (quote s) = ([⟨0, 5, s, 0⟩], none) else join [⟨0, 5, s, 0⟩] = ([], 1) := by
  split
  · rename_i h
    have hf : Form (quote s) ⟨0, 5, s, 0⟩ := .text s (List.all_eq_true.1 h)
    have hw := written_of_form (t := ⟨0, 5, s, 0⟩) hf
    have hq := quote_len s
    refine ⟨?_, toks_one hf (by omega)⟩
    have := join_one (t := ⟨0, 5, s, 0⟩) (by rw [hw]) (by rw [hw]; show (quote s).length ≤ _; omega)
    rw [this, hw]
  · rename_i h
    exact join_one_bad (by rw [text_written]; simpa using h)

/-! ### numbers -/
theorem number_form (n : Nat) (hn : n ≤ 9223372036854775807) : Form (Lib.decDigits n) ⟨0, 4, [], n⟩ := by
  obtain ⟨c, s, e1, e2, e3, e4⟩ := decDigits_form n
  have := Form.number c s e2 (by omega) (fun h => (e4 h).1)
  rw [e3, ← e1] at this
  exact this
theorem number_law (n : Nat) (hn : n ≤ 9223372036854775807) : join [⟨0, 4, [], n⟩] = (Lib.decDigits n, 0) ∧ toks (120 :: 32 :: (Lib.decDigits n ++ [59])) = ([⟨0, 1, [120], 0⟩, ⟨2, 4, [], n⟩, ⟨((2 + (Lib.decDigits n).length : Nat) : Int), 6, [59], 0⟩], none) := by
  have hf := number_form n hn
  have hw := written_of_form (t := ⟨0, 4, [], n⟩) hf
  have hlen : (Lib.decDigits n).length ≤ 20 := by
    rw [Lib.decDigits_length]
    have := nD_le 19 n (by omega)
    omega
  refine ⟨?_, ?_⟩
  · have := join_one (t := ⟨0, 4, [], n⟩) (by rw [hw]) (by rw [hw]; show (Lib.decDigits n).length ≤ _; omega)
    rw [this, hw]
  · obtain ⟨c, r, e, hb⟩ := form_begins hf
    have hfx : Form [120] ⟨0, 1, [120], 0⟩ := .name 120 [] (by decide) (by simp; decide) (by decide)
    have hfs : Form [59] ⟨0, 6, [59], 0⟩ := .sign 59 (by decide)
    have h1 : skip false (120 :: 32 :: (Lib.decDigits n ++ [59])) = [120] ++ 32 :: (Lib.decDigits n ++ [59]) := by rw [skip_begins (by decide)]; rfl
    have h2 : skip false (32 :: (Lib.decDigits n ++ [59])) = Lib.decDigits n ++ [59] := by rw [skip_blank (by decide), e, List.cons_append, skip_begins hb]
    have h3 : skip false [59] = [59] ++ [] := by rw [skip_begins (by decide)]; rfl
    unfold toks
    rw [if_neg (by simp; omega)]
    obtain ⟨f, hf'⟩ : ∃ f, (120 :: 32 :: (Lib.decDigits n ++ [59])).length + 1 = f + 4 := ⟨(Lib.decDigits n).length, by simp⟩
    rw [hf', go_tok h1 hfx ((sep_cons (by decide) (by decide)).after _ _) (by decide)]
    rw [go_tok h2 hf ((sep_cons (by decide) (by decide)).after _ _) (by decide)]
    rw [go_tok h3 hfs (sep_nil.after _ _) (by decide), go_nil (skip_end _)]
    simp only [List.length_append, List.length_cons, List.length_nil, Nat.zero_add, Nat.sub_self, Prod.mk.injEq, List.cons.injEq, and_true, true_and]
    refine ⟨?_, ?_, ?_⟩
    · congr 1
      omega
    · congr 1
      omega
    · congr 1
      omega

end Go.Proofs.YtbhdkkkaeabkhaaGreatDoor.Lx

namespace Go.Proofs.YtbhdkkkaeabkhaaGreatDoor
open Go.RowKit Go.Shelf
set_option linter.unusedSimpArgs false
set_option linter.unusedVariables false

theorem lwRuns {w W : World} (h : LW w W) : Calls Tryz.prog 3 #[] W fun e W' => e = .returned (.bool true) ∧ LW w W' :=
  (lawRuns W h.g h.n).mono fun e W' h' => ⟨h'.1, h.go h'.2.b⟩

theorem lawFew (s : ByteArray) (n : Nat) (hn : n ≤ 1000000) (w : World) : Calls Tryz.prog 22 #[.string s, .int .i64 n] w fun e w' => ∃ B : ByteArray, e = .returned (.string B) ∧ B.data.toList = s.data.toList.take n ∧ B.size ≤ n ∧ w' = w := by
  have h0 : (0 : Int) ≤ (n : Int) := by omega
  by_cases hlt : n < s.size
  · have hi : (n : Int) < (s.size : Int) := by omega
    have hi2 : (n : Int) ≤ (s.size : Int) := by omega
    go_enter Tryz.func22, Tryz.ntmps22
    go_wp2
    go_ret
    have e : (s.extract 0 n).data.toList = s.data.toList.take n := by rw [Lib.extract_data]; simp
    exact ⟨_, rfl, e, by rw [← len_size, e, List.length_take]; omega, rfl⟩
  · have hi : ¬ (n : Int) < (s.size : Int) := by omega
    go_enter Tryz.func22, Tryz.ntmps22
    go_wp2
    go_ret
    exact ⟨_, rfl, by rw [List.take_of_length_le (by rw [len_size]; omega)], by omega, rfl⟩

theorem lwFew {w W : World} (h : LW w W) (s : ByteArray) (n : Nat) (hn : n ≤ 1000000) : Calls Tryz.prog 22 #[.string s, .int .i64 n] W fun e W' => ∃ B : ByteArray, e = .returned (.string B) ∧ B.data.toList = s.data.toList.take n ∧ B.size ≤ n ∧ LW w W' :=
  (lawFew s n hn W).mono fun e W' ⟨B, h1, h2, h3, h4⟩ => ⟨B, h1, h2, h3, by rw [h4]; exact h⟩
theorem LW.trans {w W X : World} (h : LW w W) (h' : LW W X) : LW w X := ⟨h.b.trans (h'.b.mono h.b.size), h'.g, h'.n⟩
theorem LW.self {w W : World} (h : LW w W) : LW W W := LW.refl h.g h.n
/-- A text that is cut without a fault. -/
theorem lwTokensOk {w W : World} (h : LW w W) (s : ByteArray) (hs : s.size ≤ 140737488351232) {ts : List Lx.Tok} (hT : Lx.toks s.data.toList = (ts, none)) :
    Calls Tryz.prog 16 #[.string s] W fun e W' => ∃ v, e = .returned (.tuple #[v, .nilIface]) ∧ LW w W' ∧ ToksIn W' v ts := by
  refine (lwTokens h s hs).mono ?_
  rw [hT]
  rintro e W' ⟨h1, h2, h3, v, rfl, hr⟩
  exact ⟨v, rfl, h1, row_toks (w' := W') hr⟩
/-- .. with a fault. -/
theorem lwTokensBad {w W : World} (h : LW w W) (s : ByteArray) (hs : s.size ≤ 140737488351232) {ts : List Lx.Tok} {y x : Nat} (hT : Lx.toks s.data.toList = (ts, some (y, x))) :
    Calls Tryz.prog 16 #[.string s] W fun e W' => ∃ g, e = .returned (.tuple #[.slice none 0 0, .iface 74 (.pointer (some ⟨g, 0, none⟩))]) ∧ LW w W' ∧ IsRef W' g x y := by
  refine (lwTokens h s hs).mono ?_
  rw [hT]
  rintro e W' ⟨h1, h2, h3, g, rfl, hr, _⟩
  exact ⟨g, rfl, h1, hr⟩
/-- One token joined, of a row just built. -/
theorem lwJoinNew {w W : World} (h : LW w W) (ts : List Lx.Tok) (n : Nat) (hn : n = ts.length) (hl : ts.length ≤ 1000000000) (hts : ∀ t ∈ ts, t.s.length ≤ 1000000000 ∧ -9223372036854775808 ≤ t.n ∧ t.n ≤ 9223372036854775807) {b : Lx.Bytes} {y : Nat} (hJ : Lx.join ts = (b, y)) :
    Calls Tryz.prog 18 #[.slice (some ⟨W.heap.size, 0, none⟩) n n] (W.alloc (.cells (ts.flatMap cellsT).toArray 26)) fun e W' => e = .returned (.tuple #[.string ⟨b.toArray⟩, .int .i64 y]) ∧ LW w W' := by
  have := lwJoin (h.alloc (.cells (ts.flatMap cellsT).toArray 26)) (toks_new W ts _ n n hn rfl) hl hts
  rw [hJ] at this
  exact this
theorem lwSameNew {w W : World} (h : LW w W) {ts : List Lx.Tok} {v : Value} (hv : ToksIn W v ts) (us : List Lx.Tok) (n : Nat) (hn : n = us.length) (hl : ts.length ≤ 1000000000) (hl2 : us.length ≤ 1000000000) :
    Calls Tryz.prog 25 #[v, .slice (some ⟨W.heap.size, 0, none⟩) n n] (W.alloc (.cells (us.flatMap cellsT).toArray 26)) fun e W' => e = .returned (.bool (decide (ts = us))) ∧ LW w W' :=
  lwSame (h.alloc _) (hv.below (grown_below (World.grownBy_alloc _ _ _))) (toks_new W us _ n n hn rfl) hl hl2

end Go.Proofs.YtbhdkkkaeabkhaaGreatDoor

namespace Go.Proofs.YtbhdkkkaeabkhaaGreatDoor
open Go.RowKit Go.Shelf
set_option linter.unusedSimpArgs false
set_option linter.unusedVariables false

theorem OwnT.toks {w : World} {base : Nat} {v : Value} {l : List Lx.Tok} (h : OwnT w base v l) : ToksIn w v l := by
  rcases h.2 with ⟨rfl, hn⟩ | ⟨g, cap, cur, rfl, hbg, hgb, hcap, hcm, hcs, htk⟩
  · exact .inl ⟨List.length_eq_zero_iff.1 hn, none, 0, rfl⟩
  · exact .inr ⟨g, cap, cur, (0, 0), rfl, hgb, htk⟩

set_option maxRecDepth 100000 in
set_option maxHeartbeats 8000000 in
theorem lawBare (ts : List Lx.Tok) (v : Value) (w : World) (hv : ToksIn w v ts) (hl : ts.length ≤ 1000000) :
    Calls Tryz.prog 35 #[v] w fun e w' => ∃ u, e = .returned u ∧ ToksIn w' u (ts.map Lx.Tok.bare) ∧ Below w.heap.size w w' := by
  obtain ⟨a0, c0, rfl⟩ := hv.slice
  have HV := Lib.hid hv
  clear hv
  have hl1 : (ts.length : Int) ≤ 1000000 := by omega
  go_enter Tryz.func35, Tryz.ntmps35
  go_wp2
  go_loopg [3, 4] (ts.length) (fun n r v wr => ∃ (m : Nat), n = ts.length - m ∧ v = .int .i64 (m : Int) ∧ m ≤ ts.length ∧ OwnT wr w.heap.size r ((ts.take m).map Lx.Tok.bare) ∧ Below w.heap.size w wr)
  case atStart => exact ⟨0, rfl, rfl, Nat.zero_le _, World.ownsRow_nil _ _ _ _, Below.refl _ _⟩
  case round =>
    obtain ⟨m, hn, rfl, hm, ho, hb⟩ := hrel
    have HN := Lib.hid hn
    have HO := Lib.hid ho
    clear hn ho
    by_cases hlt : m < ts.length
    · have hi : (m : Int) < (ts.length : Int) := by omega
      have hi0 : (0 : Int) ≤ (m : Int) := by omega
      have hmi : (m : Int) ≤ 1000000 := by omega
      obtain ⟨g, cur, fr, rfl, hgb, hcur⟩ := HV.out.at hlt
      have hgb' := (hb.block g (lt_of_block hgb)).trans hgb
      obtain ⟨t0, t1, t2, t3⟩ := toks_at hgb' hcur hlt
      have hgl := lt_of_block hgb'
      obtain ⟨t, ht⟩ : ∃ t, ts[m]'hlt = t := ⟨_, rfl⟩
      rw [ht] at t0 t1 t2 t3
      clear hgb hgb' hcur
      go_upto_region 7 with fail
      have hW := hb.alloc hb.size (.cells #[.int .i64 0, .int .i64 t.kind, .string ⟨t.s.toArray⟩, .int .i64 t.n] 26)
      have hbx := heap_alloc_new wr (.cells #[.int .i64 0, .int .i64 t.kind, .string ⟨t.s.toArray⟩, .int .i64 t.n] 26)
      have ho := HO.out.alloc (.cells #[.int .i64 0, .int .i64 t.kind, .string ⟨t.s.toArray⟩, .int .i64 t.n] 26)
      obtain ⟨W, hWe⟩ : ∃ W, wr.alloc (.cells #[.int .i64 0, .int .i64 t.kind, .string ⟨t.s.toArray⟩, .int .i64 t.n] 26) = W := ⟨_, rfl⟩
      rw [hWe] at hW hbx ho ⊢
      obtain ⟨b0, b1, b2, b3⟩ := four_cells hbx
      have hbl := lt_of_block hbx
      clear hWe t0 t1 t2 t3
      have hmm : ((ts.take m).map Lx.Tok.bare).length = m := by rw [List.length_map, List.length_take]; omega
      have HTM := Lib.hid (show (ts.take (m + 1)).map Lx.Tok.bare = (ts.take m).map Lx.Tok.bare ++ [t.bare] by rw [List.take_succ_eq_append_getElem hlt, ht, List.map_append]; rfl)
      have ho' : W.ownsRow w.heap.size 26 4 u3 m (((ts.take m).map Lx.Tok.bare).flatMap cellsT) := by have := ho; unfold OwnT at this; rw [hmm] at this; exact this
      obtain ⟨i0, hi', hz0, hz1, hz2⟩ := info_parts infoTok
      have hsz := hW.size
      clear ht
      go_wp2_with (at_builtin; refine wpList_append_own _ rfl _ _ 28 rfl w.heap.size 26 i0 _ 4 40 Tryz.underlying28 hi' hz0 hz1 hz2 rfl (by decide) _ _ _ rfl (ho'.alloc _) ⟨W.heap.size, 0, none⟩ 1 1 (cellsT t.bare) rfl rfl (cells_new _ _ _) (by simp [cellsT, Value.oneCell']) (by unfold maxLen; omega) (by omega) (by simp; omega) ?_; intro v' w1 hown' hgrow _)
      go_roundg (ts.length - (m + 1))
      case measure => have := HN.out; omega
      case rel =>
        refine ⟨m + 1, rfl, by simp, hlt, ?_, ?_⟩
        · unfold OwnT
          rw [HTM.out, List.length_append, hmm, List.flatMap_append]
          simpa using hown'
        · refine Below.turn (hW.alloc hsz _) hgrow (fun r e => ?_)
          exact (row_kind ho' r e).1
    · have hi : ¬ (m : Int) < (ts.length : Int) := by omega
      go_wp2
      go_ret
      have h := HO.out.toks
      rw [List.take_of_length_le (by omega)] at h
      exact ⟨_, rfl, h, hb⟩

end Go.Proofs.YtbhdkkkaeabkhaaGreatDoor

namespace Go.Proofs.YtbhdkkkaeabkhaaGreatDoor
open Go.RowKit Go.Shelf
set_option linter.unusedSimpArgs false
set_option linter.unusedVariables false

def cutS (t : Lx.Tok) : Lx.Tok := { t with s := t.s.take 200 }
theorem TokAt.below {w w' : World} {b o : Nat} {t : Lx.Tok} (h : TokAt w b o t) (hb : Below w.heap.size w w') : TokAt w' b o t := by
  obtain ⟨h0, h1, h2, h3, h4⟩ := h
  have hl := World.block_lt_of_cell? w ⟨b, o, none⟩ h0
  have e : ∀ j, w'.cell? ⟨b, j, none⟩ = w.cell? ⟨b, j, none⟩ := fun j => World.cell?_of_block (hb.block b hl)
  exact ⟨(e _).trans h0, (e _).trans h1, (e _).trans h2, (e _).trans h3, h4⟩

set_option maxRecDepth 100000 in
set_option maxHeartbeats 8000000 in
theorem lawShort (ts : List Lx.Tok) (v : Value) (w : World) (hv : ToksArg w v ts) :
    Calls Tryz.prog 31 #[v, .int .i64 300] w fun e w' => ∃ u, e = .returned u ∧ ToksIn w' u ((ts.take 300).map cutS) ∧ Below w.heap.size w w' := by
  obtain ⟨a0, c0, rfl, hat⟩ := hv
  go_enter Tryz.func31, Tryz.ntmps31
  go_wp2
  go_loopg [5, 6] (ts.length) (fun n r v wr => ∃ (m : Nat), n = ts.length - m ∧ v = .int .i64 (m : Int) ∧ m ≤ ts.length ∧ m ≤ 300 ∧ OwnT wr w.heap.size r ((ts.take m).map cutS) ∧ Below w.heap.size w wr)
  case atStart => exact ⟨0, rfl, rfl, Nat.zero_le _, by omega, World.ownsRow_nil _ _ _ _, Below.refl _ _⟩
  case round =>
    obtain ⟨m, hn, rfl, hm, hm3, ho, hb⟩ := hrel
    have HN := Lib.hid hn
    have HO := Lib.hid ho
    clear hn ho
    have hmi : (m : Int) ≤ 300 := by omega
    have hi0 : (0 : Int) ≤ (m : Int) := by omega
    by_cases hlt : m < ts.length
    · have hi : (m : Int) < (ts.length : Int) := by omega
      by_cases h300 : m < 300
      · have hi3 : (m : Int) < 300 := by omega
        obtain ⟨b, off, rfl, hta⟩ := hat m hlt
        obtain ⟨t0, t1, t2, t3, t4, t5⟩ := hta.below hb
        have hgl := World.block_lt_of_cell? wr ⟨b, _, none⟩ t0
        simp only at hgl
        obtain ⟨t, ht⟩ : ∃ t, ts[m]'hlt = t := ⟨_, rfl⟩
        rw [ht] at t0 t1 t2 t3 t4 t5
        have HAT := Lib.hid hat
        clear hta hat
        go_upto_region 7 with (go_at_call 22; refine (lawFew ⟨t.s.toArray⟩ 200 (by omega) _).mono ?_; rintro e W1 ⟨B, rfl, hB, hBs, rfl⟩)
        have hBe : B = ⟨(t.s.take 200).toArray⟩ := by rw [← mk_back B, hB]
        subst hBe
        have hc : Value.string ⟨(t.s.take 200).toArray⟩ = .string ⟨(cutS t).s.toArray⟩ := rfl
        have hW := hb.alloc hb.size (.cells #[.int .i64 t.pos, .int .i64 t.kind, .string ⟨(t.s.take 200).toArray⟩, .int .i64 t.n] 26)
        have hbx := heap_alloc_new wr (.cells #[.int .i64 t.pos, .int .i64 t.kind, .string ⟨(t.s.take 200).toArray⟩, .int .i64 t.n] 26)
        have ho := HO.out.alloc (.cells #[.int .i64 t.pos, .int .i64 t.kind, .string ⟨(t.s.take 200).toArray⟩, .int .i64 t.n] 26)
        obtain ⟨W, hWe⟩ : ∃ W, wr.alloc (.cells #[.int .i64 t.pos, .int .i64 t.kind, .string ⟨(t.s.take 200).toArray⟩, .int .i64 t.n] 26) = W := ⟨_, rfl⟩
        rw [hWe] at hW hbx ho ⊢
        obtain ⟨b0, b1, b2, b3⟩ := four_cells hbx
        have hbl := lt_of_block hbx
        clear hWe t0 t1 t2 t3 t4 t5 hB hBs hc
        have hmm : ((ts.take m).map cutS).length = m := by rw [List.length_map, List.length_take]; omega
        have HTM := Lib.hid (show (ts.take (m + 1)).map cutS = (ts.take m).map cutS ++ [cutS t] by rw [List.take_succ_eq_append_getElem hlt, ht, List.map_append]; rfl)
        have ho' : W.ownsRow w.heap.size 26 4 u5 m (((ts.take m).map cutS).flatMap cellsT) := by have := ho; unfold OwnT at this; rw [hmm] at this; exact this
        obtain ⟨i0, hi', hz0, hz1, hz2⟩ := info_parts infoTok
        have hsz := hW.size
        clear ht
        go_wp2_with (at_builtin; refine wpList_append_own _ rfl _ _ 28 rfl w.heap.size 26 i0 _ 4 40 Tryz.underlying28 hi' hz0 hz1 hz2 rfl (by decide) _ _ _ rfl (ho'.alloc _) ⟨W.heap.size, 0, none⟩ 1 1 (cellsT (cutS t)) rfl rfl (cells_new _ _ _) (by simp [cellsT, Value.oneCell']) (by unfold maxLen; omega) (by omega) (by simp; omega) ?_; intro v' w1 hown' hgrow _)
        go_roundg (ts.length - (m + 1))
        case measure => have := HN.out; omega
        case rel =>
          refine ⟨m + 1, rfl, by simp, hlt, by omega, ?_, ?_⟩
          · unfold OwnT
            rw [HTM.out, List.length_append, hmm, List.flatMap_append]
            simpa using hown'
          · refine Below.turn (hW.alloc hsz _) hgrow (fun r e => ?_)
            exact (row_kind ho' r e).1
      · have hi3 : ¬ (m : Int) < 300 := by omega
        clear hat
        go_wp2
        go_ret
        have h := HO.out.toks
        rw [show m = 300 by omega, List.map_take] at h
        exact ⟨_, rfl, h, hb⟩
    · have hi : ¬ (m : Int) < (ts.length : Int) := by omega
      clear hat
      go_wp2
      go_ret
      have h := HO.out.toks
      rw [List.take_of_length_le (by omega)] at h
      rw [List.take_of_length_le (by rw [List.length_map]; omega)]
      exact ⟨_, rfl, h, hb⟩

end Go.Proofs.YtbhdkkkaeabkhaaGreatDoor

namespace Go.Proofs.YtbhdkkkaeabkhaaGreatDoor
open Go.RowKit
set_option linter.unusedSimpArgs false
set_option linter.unusedVariables false

/-- A row of tokens that is known whole. -/
def RowW (w : World) (g : Nat) (us : List Lx.Tok) : Prop := w.heap[g]? = some (.cells (us.flatMap cellsT).toArray 26 (0, 0))
def zeroT : Lx.Tok := ⟨0, 0, [], 0⟩
theorem flat_len : ∀ (us : List Lx.Tok), (us.flatMap cellsT).length = us.length * 4
  | [] => rfl
  | t :: us => by
    rw [List.flatMap_cons, List.length_append, flat_len us, List.length_cons]
    simp [cellsT]
    omega
theorem flat_one (us : List Lx.Tok) : ∀ v ∈ us.flatMap cellsT, v.oneCell' = true := by
  intro v hv
  obtain ⟨t, _, ht⟩ := List.mem_flatMap.1 hv
  simp only [cellsT, List.mem_cons, List.not_mem_nil, or_false] at ht
  rcases ht with rfl | rfl | rfl | rfl <;> rfl
theorem made_toks (n : Nat) : (madeCells (Value.agg #[.int .i64 0, .int .i64 0, .string ⟨#[]⟩, .int .i64 0]).cells (n * 4)).toList = (List.replicate n zeroT).flatMap cellsT := by
  apply List.ext_getElem?
  intro j
  by_cases hj : j < n * 4
  · have e : j = j / 4 * 4 + j % 4 := by omega
    have h1 : ((List.replicate n zeroT).flatMap cellsT)[j]? = (cellsT zeroT)[j % 4]? := by
      rw [e, flat_at _ (j / 4) (by rw [List.length_replicate]; omega) (j % 4) (by omega), List.getElem_replicate]
      congr 1
      omega
    rw [h1]
    have h4 : j % 4 < 4 := by omega
    have hz : (Value.agg #[.int .i64 0, .int .i64 0, .string ⟨#[]⟩, .int .i64 0]).cells = (cellsT zeroT).toArray := rfl
    rw [hz]
    simp only [madeCells, Array.toList_map, Array.toList_range, List.getElem?_map, List.getElem?_range hj, Option.map_some]
    rw [show (cellsT zeroT).toArray.size = 4 from rfl]
    generalize j % 4 = q at h4
    match q, h4 with
    | 0, _ => rfl
    | 1, _ => rfl
    | 2, _ => rfl
    | 3, _ => rfl
  · rw [List.getElem?_eq_none (by rw [Array.length_toList, size_madeCells]; omega), List.getElem?_eq_none (by rw [flat_len, List.length_replicate]; omega)]
theorem flat_set : ∀ (us : List Lx.Tok) (m : Nat), m < us.length → ∀ (u : Lx.Tok),
    ((((us.flatMap cellsT).set (m * 4) (.int .i64 u.pos)).set (m * 4 + 1) (.int .i64 u.kind)).set (m * 4 + 2) (.string ⟨u.s.toArray⟩)).set (m * 4 + 3) (.int .i64 u.n) = (us.set m u).flatMap cellsT
  | [], m, h, u => by simp at h
  | t :: us, 0, h, u => rfl
  | t :: us, m + 1, h, u => by
    have ih := flat_set us m (by simpa using h) u
    rw [List.set_cons_succ, List.flatMap_cons, List.flatMap_cons, ← ih, show (m + 1) * 4 = m * 4 + 1 + 1 + 1 + 1 by omega]
    rfl
theorem heap_set {w : World} {g t : Nat} {cs : Array Value} (h : w.heap[g]? = some (.cells cs t (0, 0))) (j : Nat) (v : Value) : (w.setCell ⟨g, j, none⟩ v).heap[g]? = some (.cells (cs.setIfInBounds j v) t (0, 0)) := by
  simp [World.setCell, Array.getElem?_modify, h]
theorem RowW.set {w : World} {g m : Nat} {us : List Lx.Tok} (h : RowW w g us) (hm : m < us.length) (u : Lx.Tok) :
    RowW ((((w.setCell ⟨g, m * 4, none⟩ (.int .i64 u.pos)).setCell ⟨g, m * 4 + 1, none⟩ (.int .i64 u.kind)).setCell ⟨g, m * 4 + 2, none⟩ (.string ⟨u.s.toArray⟩)).setCell ⟨g, m * 4 + 3, none⟩ (.int .i64 u.n)) g (us.set m u) := by
  have h4 := heap_set (heap_set (heap_set (heap_set h (m * 4) (.int .i64 u.pos)) (m * 4 + 1) (.int .i64 u.kind)) (m * 4 + 2) (.string ⟨u.s.toArray⟩)) (m * 4 + 3) (.int .i64 u.n)
  refine h4.trans ?_
  rw [← flat_set us m hm u]
  simp
theorem RowW.at {w : World} {g m : Nat} {us : List Lx.Tok} (h : RowW w g us) (hm : m < us.length) :
    w.cell? ⟨g, m * 4, none⟩ = some (.int .i64 (us[m]'hm).pos) ∧ w.cell? ⟨g, m * 4 + 1, none⟩ = some (.int .i64 (us[m]'hm).kind) ∧ w.cell? ⟨g, m * 4 + 2, none⟩ = some (.string ⟨(us[m]'hm).s.toArray⟩) ∧ w.cell? ⟨g, m * 4 + 3, none⟩ = some (.int .i64 (us[m]'hm).n) :=
  toks_at h (by rw [List.take_of_length_le (by rw [flat_len]; exact Nat.le_refl _)]) hm
theorem RowW.free {w : World} {g m : Nat} {us : List Lx.Tok} (h : RowW w g us) : w.frozen? ⟨g, m * 4, none⟩ = false ∧ w.frozen? ⟨g, m * 4 + 1, none⟩ = false ∧ w.frozen? ⟨g, m * 4 + 2, none⟩ = false ∧ w.frozen? ⟨g, m * 4 + 3, none⟩ = false :=
  ⟨free_of h _, free_of h _, free_of h _, free_of h _⟩
theorem RowW.lt {w : World} {g : Nat} {us : List Lx.Tok} (h : RowW w g us) : g < w.heap.size := lt_of_block h
theorem RowW.below {w w' : World} {g : Nat} {us : List Lx.Tok} (h : RowW w g us) (hb : Below w.heap.size w w') : RowW w' g us := (hb.block g h.lt).trans h
/-- Its beginning, as a row that is read. -/
theorem RowW.toks {w : World} {g c : Nat} {us ts : List Lx.Tok} (h : RowW w g us) (he : us.take ts.length = ts) : ToksIn w (.slice (some ⟨g, 0, none⟩) ts.length c) ts := by
  refine .inr ⟨g, c, _, _, rfl, h, ?_⟩
  show (us.flatMap cellsT).take (ts.length * 4) = _
  have e : us = ts ++ us.drop ts.length := by conv => lhs; rw [← List.take_append_drop ts.length us, he]
  rw [e, List.flatMap_append, ← flat_len ts, List.take_left]

theorem run_copy4 {P : Program} (w : World) (dT sT ty elem : TypeId) (g dLen dCap : Nat) (a : Addr) (sLen sCap : Nat) (cur : Array Value) (t : TypeId) (cs : List Value)
    (hu : P.underlying dT = some (.slice elem)) (hs : (P.info? elem).map (·.size) = some 4)
    (hg : w.heap[g]? = some (.cells cur t (0, 0))) (hn : cs.length = Nat.min sLen dLen * 4)
    (hsrc : ∀ j v, cs[j]? = some v → w.cell? (a.add j) = some v) (hfit : cs.length ≤ cur.size) (h1 : ∀ v ∈ cs, v.oneCell' = true) :
    (Builtin.copy_ #[dT, sT] ty #[.slice (some ⟨g, 0, none⟩) dLen dCap, .slice (some a) sLen sCap]).run P w =
      .ok (goInt (Nat.min sLen dLen)) (w.setRow g (cs ++ cur.toList.drop cs.length).toArray) := by
  have hl := run_loadCells_list (P := P) w a cs hsrc
  have hst := run_storeCells_at P g 0 t cs 0 cur w hg (by simpa using hfit) h1
  cases hq : P.info? elem with
  | none => simp [hq] at hs
  | some i =>
    have hi : i.size = 4 := by simpa [hq] using hs
    simp only [List.take_zero, Nat.add_zero, List.nil_append, Nat.zero_add] at hst
    simp [Builtin.copy_, run_underlying hu, Builtin.lenOf, Builtin.firstCells, sizeOf, typeInfo, hq, hi, ← hn, hl, hst]
theorem run_copy4_none {P : Program} (w : World) (dT sT ty elem : TypeId) (d a : Option Addr) (dLen dCap sCap : Nat) (hu : P.underlying dT = some (.slice elem)) (hs : (P.info? elem).map (·.size) = some 4) :
    (Builtin.copy_ #[dT, sT] ty #[.slice d dLen dCap, .slice a 0 sCap]).run P w = .ok (goInt 0) w := by
  cases hq : P.info? elem with
  | none => simp [hq] at hs
  | some i =>
    have hl : ∀ (x : Addr), (loadCells x 0).run P w = .ok #[] w := fun x => by simpa using run_loadCells_list (P := P) w x [] (by simp)
    cases d <;> cases a <;> simp [Builtin.copy_, run_underlying hu, Builtin.lenOf, Builtin.firstCells, sizeOf, typeInfo, hq, storeCells, hl]
theorem infoTok4 : (Tryz.prog.info? 26).map (·.size) = some 4 := by
  have h := infoTok
  cases hq : Tryz.prog.info? 26 with
  | none => rw [hq] at h; cases h
  | some i =>
    rw [hq] at h
    simp only [Option.map_some, Option.some.injEq, Prod.mk.injEq] at h
    simp [h.2.1]
theorem grown_setRow (w : World) (g : Nat) (cs : Array Value) : w.grownBy (w.setRow g cs) (some g) :=
  ⟨rfl, rfl, rfl, by simp [World.setRow], fun k hk hne => setRow_other w g k cs (fun e => hne (by rw [e]))⟩
/-- copy(full, l), a row of tokens that was made. -/
theorem wpList_copy_toks {ops : Array Oper} {rest : List Oper} {o : Oper} {a : Act} {Q : Exit → Act → World → Prop} {w : World} (hgd : o.guard = none) (d s : Operand)
    (ho : o.op = .call { callee := .builtin .copy, args := #[d, s], argTypes := #[28, 28] }) (g : Nat) (us ts : List Lx.Tok) (v : Value) (n c : Nat)
    (hd : a.eval d = .slice (some ⟨g, 0, none⟩) n c) (hs : a.eval s = v) (hv : ToksIn w v ts) (hg : RowW w g us) (hnu : n = us.length) (hl : ts.length ≤ us.length)
    (h : ∀ w', RowW w' g (ts ++ us.drop ts.length) → w.grownBy w' (some g) → wpList Tryz.prog ops Q rest (a.put o.dst (goInt ts.length)) w') : wpList Tryz.prog ops Q (o :: rest) a w := by
  subst hnu
  refine wpList_plain hgd fun K hK => ?_
  rcases hv with ⟨rfl, a0, c0, rfl⟩ | ⟨gs, cp, cur, fr, rfl, hgs, hcur⟩
  · have hrun := run_copy4_none (P := Tryz.prog) w 28 28 o.type 26 (some ⟨g, 0, none⟩) a0 us.length c c0 Tryz.underlying28 infoTok4
    unfold Oper.wp
    simp [execOp, ho, resolve, invoke, builtin, hd, hs, hrun, Result.andThen]
    exact hK _ _ (h w hg (World.grownBy.refl _ _))
  · have hmin : Nat.min ts.length us.length = ts.length := Nat.min_eq_left hl
    have hrun := run_copy4 (P := Tryz.prog) w 28 28 o.type 26 g us.length c ⟨gs, 0, none⟩ ts.length cp _ _ (ts.flatMap cellsT) Tryz.underlying28 infoTok4 hg (by rw [hmin, flat_len])
      (by
        intro j u hj
        have e : (⟨gs, 0, none⟩ : Addr).add j = ⟨gs, j, none⟩ := by
          by_cases h0 : j = 0
          · subst h0; simp [Addr.add]
          · simp [Addr.add, h0]
        have hjl : j < ts.length * 4 := by
          have := (List.getElem?_eq_some_iff.1 hj).1
          rw [flat_len] at this
          exact this
        rw [e, cell_of hgs, ← Array.getElem?_toList, ← hj, ← hcur, List.getElem?_take_of_lt hjl])
      (by simp only [List.size_toArray, flat_len]; omega) (flat_one ts)
    have e : ts.flatMap cellsT ++ (us.flatMap cellsT).toArray.toList.drop (ts.flatMap cellsT).length = (ts ++ us.drop ts.length).flatMap cellsT := by
      have e2 : us.flatMap cellsT = (us.take ts.length).flatMap cellsT ++ (us.drop ts.length).flatMap cellsT := by rw [← List.flatMap_append, List.take_append_drop]
      have e3 : (ts.flatMap cellsT).length = ((us.take ts.length).flatMap cellsT).length := by rw [flat_len, flat_len, List.length_take, Nat.min_eq_left hl]
      rw [List.flatMap_append]
      show ts.flatMap cellsT ++ (us.flatMap cellsT).drop _ = _
      rw [e2, e3, List.drop_left]
    rw [hmin, e] at hrun
    obtain ⟨X, hX⟩ : ∃ X, ts ++ us.drop ts.length = X := ⟨_, rfl⟩
    rw [hX] at hrun h
    obtain ⟨C, hC⟩ : ∃ C, (X.flatMap cellsT).toArray = C := ⟨_, rfl⟩
    rw [hC] at hrun
    unfold Oper.wp
    simp [execOp, ho, resolve, invoke, builtin, hd, hs, hrun, Result.andThen]
    refine hK _ _ (h _ ?_ (grown_setRow _ _ _))
    unfold RowW
    rw [hC]
    exact setRow_heap w g _ _ _ _ hg

end Go.Proofs.YtbhdkkkaeabkhaaGreatDoor

namespace Go.Proofs.YtbhdkkkaeabkhaaGreatDoor
open Go.RowKit
set_option maxHeartbeats 400000
set_option linter.unusedSimpArgs false
set_option linter.unusedVariables false

theorem refSmall (b : UInt8) (w : World) : Calls Tryz.prog 72 #[.int .u8 (b.toNat : Int)] w fun e w' => e = .returned (.bool (Lx.small b)) ∧ w = w' := by
  go_enter Tryz.func72, Tryz.ntmps72
  go_wp2
  all_goals
    go_ret
    refine ⟨ret_bool ?_, rfl⟩
    rw [Bool.eq_iff_iff]
    simp [Lx.small]
    omega
theorem refGreat (b : UInt8) (w : World) : Calls Tryz.prog 73 #[.int .u8 (b.toNat : Int)] w fun e w' => e = .returned (.bool (Lx.great b)) ∧ w = w' := by
  go_enter Tryz.func73, Tryz.ntmps73
  go_wp2
  all_goals
    go_ret
    refine ⟨ret_bool ?_, rfl⟩
    rw [Bool.eq_iff_iff]
    simp [Lx.great]
    omega
theorem refDigit (b : UInt8) (w : World) : Calls Tryz.prog 74 #[.int .u8 (b.toNat : Int)] w fun e w' => e = .returned (.bool (Lx.digit b)) ∧ w = w' := by
  go_enter Tryz.func74, Tryz.ntmps74
  go_wp2
  all_goals
    go_ret
    refine ⟨ret_bool ?_, rfl⟩
    rw [Bool.eq_iff_iff]
    simp [Lx.digit]
    omega
theorem refSaid (b : UInt8) (w : World) : Calls Tryz.prog 80 #[.int .u8 (b.toNat : Int)] w fun e w' => e = .returned (.bool (Lx.saidB b)) ∧ w = w' := by
  go_enter Tryz.func80, Tryz.ntmps80
  go_wp2
  all_goals
    go_ret
    refine ⟨ret_bool ?_, rfl⟩
    rw [Bool.eq_iff_iff]
    simp [Lx.saidB]
    omega
def plainB (c : UInt8) : Bool := decide (32 ≤ c.toNat) && (decide (c.toNat ≤ 126) && (!(c.toNat == 34) && !(c.toNat == 92)))
theorem refPlain (b : UInt8) (w : World) : Calls Tryz.prog 97 #[.int .u8 (b.toNat : Int)] w fun e w' => e = .returned (.bool (plainB b)) ∧ w = w' := by
  go_enter Tryz.func97, Tryz.ntmps97
  go_wp2
  all_goals
    go_ret
    refine ⟨ret_bool ?_, rfl⟩
    rw [Bool.eq_iff_iff]
    simp [plainB]
    omega
theorem refGrows (b : UInt8) (w : World) : Calls Tryz.prog 95 #[.int .u8 (b.toNat : Int)] w fun e w' => e = .returned (.bool (Lx.within b)) ∧ w = w' := by
  go_enter Tryz.func95, Tryz.ntmps95
  cases hs : Lx.small b <;> cases hg : Lx.great b <;> cases hd : Lx.digit b
  all_goals
    have HW := Lib.hid (show Lx.within b = ((Lx.small b || Lx.great b) || Lx.digit b || b.toNat == 95) from rfl)
    rw [hs, hg, hd] at HW
    go_wp2_with (first
      | (go_at_call 72; refine (refSmall _ _).mono ?_; rw [hs]; rintro e w' ⟨rfl, rfl⟩)
      | (go_at_call 73; refine (refGreat _ _).mono ?_; rw [hg]; rintro e w' ⟨rfl, rfl⟩)
      | (go_at_call 74; refine (refDigit _ _).mono ?_; rw [hd]; rintro e w' ⟨rfl, rfl⟩))
    go_ret
    refine ⟨ret_bool ?_, rfl⟩
    rw [HW.out]
    first | rfl | (rw [Bool.eq_iff_iff]; simp; try omega)

end Go.Proofs.YtbhdkkkaeabkhaaGreatDoor
