/-
  coillaw1.LexRuns: chapter 1's runs.
-/
import Derived.Test.YtbhdkkkaeabkhaaGreatDoorLwSays
import Derived.Test.YtbhdkkkaeabkhaaGreatDoorLwStrs
import Derived.StillTailTactics
namespace Go.Proofs.YtbhdkkkaeabkhaaGreatDoor
open Go.RowKit Go.Shelf
set_option linter.unusedSimpArgs false
set_option linter.unusedVariables false

theorem lwJoin {w W : World} (h : LW w W) {ts : List Lx.Tok} {v : Value} (hv : ToksIn W v ts) (hl : ts.length ≤ 1000000000) (hts : ∀ t ∈ ts, t.s.length ≤ 1000000000 ∧ -9223372036854775808 ≤ t.n ∧ t.n ≤ 9223372036854775807) :
    Calls Tryz.prog 18 #[v] W fun e W' => e = .returned (.tuple #[.string ⟨(Lx.join ts).1.toArray⟩, .int .i64 (Lx.join ts).2]) ∧ LW w W' :=
  (lexJoin ts v W h.g.gs h.n hv hl hts).mono fun e W' h' => ⟨h'.1, h.go h'.2⟩
theorem lwRefused {w W : World} (h : LW w W) (g x y : Nat) (a b : Int) (hR : IsRef W g x y) (hx : x ≤ 9223372036854775807) (hy : y ≤ 1000000) :
    Calls Tryz.prog 17 #[.iface 74 (.pointer (some ⟨g, 0, none⟩)), .int .i64 a, .int .i64 b] W fun e W' => e = .returned (.bool ((x : Int) == a && (y : Int) == b)) ∧ LW w W' :=
  (lawRefused g x y a b W hR h.g (by omega) (by omega) (by omega) (by omega)).mono fun e W' h' => ⟨h'.1, h.go h'.2⟩

def runs1 : List Lx.Tok := [⟨0, 3, [108, 101, 116], 0⟩, ⟨4, 1, [120], 0⟩, ⟨6, 6, [61], 0⟩, ⟨8, 4, [], 5⟩, ⟨9, 6, [59], 0⟩]
def runs2 : List Lx.Tok := [⟨0, 2, [65], 0⟩, ⟨1, 6, [61, 61], 0⟩, ⟨3, 1, [97], 0⟩]
def runs3 : List Lx.Tok := [⟨0, 5, [97, 10, 34], 0⟩]
def runs4 : List Lx.Tok := [⟨0, 4, [], 0⟩]

theorem lwSays {w W : World} (h : LW w W) (s : ByteArray) (ts : List Lx.Tok) (v : Value) (hs : s.size ≤ 140737488351232) (hv : ToksIn W v ts) (hl : ts.length ≤ 1000000000) (hT : saysB s.data.toList ts = true) :
    Calls Tryz.prog 14 #[.string s, v] W fun e W' => e = .returned (.bool true) ∧ LW w W' :=
  (lawSays s ts v W h.g h.n hs hv hl).mono fun e W' h' => ⟨by rw [← hT]; exact h'.1, h.go h'.2.b⟩
theorem toks_new (W : World) (ts : List Lx.Tok) (cs : Array Value) (n c : Nat) (hn : n = ts.length) (hc : cs.toList = ts.flatMap cellsT) : ToksIn (W.alloc (.cells cs 26)) (.slice (some ⟨W.heap.size, 0, none⟩) n c) ts := by
  subst hn
  refine .inr ⟨W.heap.size, c, cs, (0, 0), rfl, heap_alloc_new W _, ?_⟩
  rw [hc, List.take_of_length_le]
  have : ∀ l : List Lx.Tok, (l.flatMap cellsT).length = l.length * 4 := by
    intro l
    induction l with
    | nil => rfl
    | cons t l ih => rw [List.flatMap_cons, List.length_append, ih, List.length_cons]; simp [cellsT]; omega
  rw [this]
  exact Nat.le_refl _

def runTexts : List Lx.Bytes := [[48, 48, 55], [49, 97], [57, 50, 50, 51, 51, 55, 50, 48, 51, 54, 56, 53, 52, 55, 55, 53, 56, 48, 56], [120, 32, 35, 32, 121], [97, 32, 47, 32, 98], [34, 97], [34, 97, 92, 120, 34], [195, 169],
  [97, 98, 99, 100, 101, 102, 103, 104, 105, 106, 97, 98, 99, 100, 101, 102, 103, 104, 105, 106, 97, 98, 99, 100, 101, 102, 103, 104, 105, 106, 97, 98, 99]]
def runPlaces : List Nat := [0, 0, 0, 2, 2, 2, 3, 0, 32]
def runWhys : List Nat := [11, 11, 11, 10, 10, 12, 12, 10, 2]
def runCells (l : List Nat) : Array Value := (l.map fun (n : Nat) => Value.int .i64 (n : Int)).toArray
theorem runs_key : ((List.range 9).all fun m => (Lx.toks (runTexts.getD m [])).2 == some (runWhys.getD m 0, runPlaces.getD m 0)) = true := by kernel_rfl
theorem runs_cut (m : Nat) (hm : m < 9) : ∃ l, Lx.toks (runTexts.getD m []) = (l, some (runWhys.getD m 0, runPlaces.getD m 0)) := by
  have h := List.all_eq_true.1 runs_key m (List.mem_range.2 hm)
  exact ⟨_, Prod.ext rfl (by simpa using h)⟩
theorem runs_bound : ∀ m, m < 9 → runWhys.getD m 0 ≤ 1000 ∧ runPlaces.getD m 0 ≤ 1000 ∧ (runTexts.getD m []).length ≤ 1000 := by decide
theorem runCells_at (l : List Nat) (m : Nat) (h : m < l.length) : (runCells l)[m]? = some (.int .i64 ((l.getD m 0 : Nat) : Int)) := by
  unfold runCells
  rw [List.getElem?_toArray, List.getElem?_map, List.getD_eq_getElem?_getD, List.getElem?_eq_getElem h]
  rfl
def runTextCells : Array Value := (runTexts.map fun s => Value.string ⟨s.toArray⟩).toArray
theorem runTextCells_at (m : Nat) (h : m < 9) : runTextCells[m]? = some (.string ⟨(runTexts.getD m []).toArray⟩) := by
  have hl : runTexts.length = 9 := rfl
  unfold runTextCells
  rw [List.getElem?_toArray, List.getElem?_map, List.getD_eq_getElem?_getD, List.getElem?_eq_getElem (by omega)]
  rfl

def runs5 : List Lx.Tok := [⟨5, 5, [97, 10], 0⟩, ⟨1, 1, [98], 0⟩]
def runs6 : List Lx.Tok := [⟨0, 1, [108, 101, 116], 0⟩]

theorem saysRuns {w W : World} (h : LW w W) (s : ByteArray) (ts : List Lx.Tok) (n : Nat) (hn : n = ts.length) (hs : s.size ≤ 1000) (hl : ts.length ≤ 1000) (hT : saysB s.data.toList ts = true) :
    Calls Tryz.prog 14 #[.string s, .slice (some ⟨W.heap.size, 0, none⟩) n n] (W.alloc (.cells (ts.flatMap cellsT).toArray 26)) fun e W' => e = .returned (.bool true) ∧ LW w W' :=
  lwSays (h.alloc _) s ts _ (by omega) (toks_new W ts _ n n hn rfl) (by omega) hT

set_option maxRecDepth 100000 in
set_option maxHeartbeats 8000000 in
theorem lawRuns (w : World) (hG : GL w) (hN : NG ≤ w.heap.size) : Calls Tryz.prog 3 #[] w fun e w' => e = .returned (.bool true) ∧ LW w w' := by
  have H0 := LW.refl hG hN
  have hs1 := fun W (h : LW w W) => saysRuns h ⟨#[108, 101, 116, 32, 120, 32, 61, 32, 53, 59]⟩ runs1 5 rfl (by decide) (by decide) (by kernel_rfl)
  have hs2 := fun W (h : LW w W) => saysRuns h ⟨#[65, 61, 61, 97]⟩ runs2 3 rfl (by decide) (by decide) (by kernel_rfl)
  have hs3 := fun W (h : LW w W) => saysRuns h ⟨#[34, 97, 92, 110, 92, 34, 34, 32, 47, 47, 32, 98]⟩ runs3 1 rfl (by decide) (by decide) (by kernel_rfl)
  have hs4 := fun W (h : LW w W) => saysRuns h ⟨#[48]⟩ runs4 1 rfl (by decide) (by decide) (by kernel_rfl)
  have hs5 := fun W (h : LW w W) => lwSays h ⟨#[47, 47, 32, 120]⟩ [] (.slice none 0 0) (by decide) (.inl ⟨rfl, none, 0, rfl⟩) (by decide) (by kernel_rfl)
  clear hG hN
  go_enter Tryz.func3, Tryz.ntmps3
  go_upto_region 8 with (first
    | (go_at_call 15; refine (lwTok (by assumption) _ _ _ _).mono ?_; rintro e W1 ⟨rfl, H1⟩)
    | (go_at_call 14; refine (hs1 _ (by assumption)).mono ?_; clear hs1; rintro e W2 ⟨rfl, H2⟩)
    | (go_at_call 14; refine (hs2 _ (by assumption)).mono ?_; clear hs2; rintro e W2 ⟨rfl, H2⟩)
    | (go_at_call 14; refine (hs3 _ (by assumption)).mono ?_; clear hs3; rintro e W2 ⟨rfl, H2⟩)
    | (go_at_call 14; refine (hs4 _ (by assumption)).mono ?_; clear hs4; rintro e W2 ⟨rfl, H2⟩)
    | (go_at_call 14; refine (hs5 _ (by assumption)).mono ?_; clear hs5; rintro e W2 ⟨rfl, H2⟩))
  obtain ⟨B, hB⟩ : ∃ B, W2.heap.size = B := ⟨_, rfl⟩
  obtain ⟨W3, hW3⟩ : ∃ W3, ((W2.alloc (.cells runTextCells 9)).alloc (.cells (runCells runPlaces) 3)).alloc (.cells (runCells runWhys) 3) = W3 := ⟨_, rfl⟩
  have H3 : LW w W3 := by rw [← hW3]; exact ((H2.alloc _).alloc _).alloc _
  have hT3 : W3.heap[B]? = some (.cells runTextCells 9 (0, 0)) := by rw [← hW3, ← hB]; exact heap_alloc (heap_alloc (heap_alloc_new _ _) _) _
  have hP3 : W3.heap[B + 1]? = some (.cells (runCells runPlaces) 3 (0, 0)) := by rw [← hW3, ← hB]; have := heap_alloc (heap_alloc_new (W2.alloc (.cells runTextCells 9)) (.cells (runCells runPlaces) 3)) (.cells (runCells runWhys) 3); rwa [World.size_alloc] at this
  have hY3 : W3.heap[B + 1 + 1]? = some (.cells (runCells runWhys) 3 (0, 0)) := by rw [← hW3, ← hB]; have := heap_alloc_new ((W2.alloc (.cells runTextCells 9)).alloc (.cells (runCells runPlaces) 3)) (.cells (runCells runWhys) 3); rwa [World.size_alloc, World.size_alloc] at this
  show Code.wp _ _ _ _ (((W2.alloc (.cells runTextCells 9)).alloc (.cells (runCells runPlaces) 3)).alloc (.cells (runCells runWhys) 3))
  rw [hW3, hB]
  have HA := Lib.hid hT3
  have HP := Lib.hid hP3
  have HY := Lib.hid hY3
  have hl3 := lt_of_block hY3
  have hB3 : LW W3 W3 := LW.refl H3.g H3.n
  clear hT3 hP3 hY3 hW3 hB
  go_wp2_with fail
  go_loopg [4] 9 (fun n v wr => ∃ (m : Nat), n = 9 - m ∧ v = .int .i64 (m : Int) ∧ m ≤ 9 ∧ LW W3 wr)
  case atStart => exact ⟨0, rfl, rfl, by omega, hB3⟩
  case round =>
    obtain ⟨m, hn, rfl, hm, hw⟩ := hrel
    have hb := hw.b
    have HN := Lib.hid hn
    clear hn hB3
    by_cases hlt : m < 9
    · have hi : (m : Int) < 9 := by omega
      have hi0 : (0 : Int) ≤ (m : Int) := by omega
      obtain ⟨b1, b2, b3⟩ := runs_bound m hlt
      obtain ⟨l, hl⟩ := runs_cut m hlt
      have t0 := (cell_of ((hb.block _ (by omega)).trans HA.out) m).trans (runTextCells_at m hlt)
      have t1 := (cell_of ((hb.block _ (by omega)).trans HP.out) m).trans (runCells_at runPlaces m hlt)
      have t2 := (cell_of ((hb.block _ (by omega)).trans HY.out) m).trans (runCells_at runWhys m hlt)
      have hsz := hb.size
      have l0 : B < wr.heap.size := by omega
      have l1 : B + 1 < wr.heap.size := by omega
      have l2 : B + 1 + 1 < wr.heap.size := by omega
      obtain ⟨x, hx⟩ : ∃ x, runPlaces.getD m 0 = x := ⟨_, rfl⟩
      obtain ⟨y, hy⟩ : ∃ y, runWhys.getD m 0 = y := ⟨_, rfl⟩
      obtain ⟨s, hs⟩ : ∃ s, runTexts.getD m [] = s := ⟨_, rfl⟩
      rw [hx] at t1 b2 hl
      rw [hy] at t2 b1 hl
      rw [hs] at t0 b3 hl
      have hT := lwTokens hw ⟨s.toArray⟩ (by show s.length ≤ _; omega)
      rw [show (⟨s.toArray⟩ : ByteArray).data.toList = s from rfl, hl] at hT
      have e1 : ((x : Int) == (x : Int)) = true := by simp
      have e2 : ((y : Int) == (y : Int)) = true := by simp
      clear hx hy hs hl
      go_wp2_with (go_at_call 16; refine hT.mono ?_; clear hT; rintro e W5 ⟨h5, hb5, -, g, rfl, hR, -⟩)
      have t5 := (World.cell?_of_block (a := ⟨B + 1, m, none⟩) (hb5.block _ l1)).trans t1
      have t6 := (World.cell?_of_block (a := ⟨B + 1 + 1, m, none⟩) (hb5.block _ l2)).trans t2
      have l5 := Nat.lt_of_lt_of_le l1 hb5.size
      have l6 := Nat.lt_of_lt_of_le l2 hb5.size
      go_still_tail 13, (by kernel_rfl)
      change wpList _ _ _ _ _ W5.drew
      have h7 : LW W3 W5.drew := LW.drewN h5 1
      have hR7 : IsRef W5.drew g x y := hR
      obtain ⟨W7, hW7⟩ : ∃ W7, W5.drew = W7 := ⟨_, rfl⟩
      rw [hW7] at h7 hR7 ⊢
      clear hW7 t5 t6 l5 l6 hR h5
      have hq := lwRefused h7 g x y x y hR7 (by omega) (by omega)
      rw [e1, e2] at hq
      clear e1 e2
      go_wp2_with (go_at_call 17; refine hq.mono ?_; clear hq; rintro e W6 ⟨rfl, h6⟩)
      go_roundg (9 - (m + 1))
      case measure => have := HN.out; omega
      case rel => exact ⟨m + 1, rfl, by simp, hlt, h6⟩
    · have hi : ¬ (m : Int) < 9 := by omega
      have hw0 : LW w wr := ⟨H3.b.trans (hw.b.mono H3.b.size), hw.g, hw.n⟩
      have hj1 := fun W (h : LW w W) => lwJoin h (ts := []) (v := .slice none 0 0) (.inl ⟨rfl, none, 0, rfl⟩) (by decide) (by simp)
      have hj2 := fun W (h : LW w W) => lwJoin (h.alloc (.cells (runs5.flatMap cellsT).toArray 26)) (toks_new W runs5 _ 2 2 rfl rfl) (by decide) (by decide)
      have hj3 := fun W (h : LW w W) => lwJoin (h.alloc (.cells (runs6.flatMap cellsT).toArray 26)) (toks_new W runs6 _ 1 1 rfl rfl) (by decide) (by decide)
      rw [show Lx.join [] = ([], 0) from by kernel_rfl] at hj1
      rw [show Lx.join runs5 = ([34, 97, 92, 110, 34, 32, 98], 0) from by kernel_rfl] at hj2
      rw [show Lx.join runs6 = ([], 1) from by kernel_rfl] at hj3
      have hws : ∀ W (h : LW w W), Calls Tryz.prog 20 #[] W fun e W' => e = .returned (.slice (some ⟨W.heap.size, 0, none⟩) 25 25) ∧ LW w W' ∧ StrsIn W' (.slice (some ⟨W.heap.size, 0, none⟩) 25 25) Lx.words := fun W h => (lexWords W h.g.gs.asc).mono fun e W' h' => by
        obtain ⟨rfl, rfl⟩ := h'
        exact ⟨rfl, h.alloc _, strsWords _⟩
      have hwr : ∀ W V (h : LW w W), StrsIn W V Lx.words → Calls Tryz.prog 21 #[] W fun e W' => e = .returned (.slice (some ⟨W.heap.size, 0, none⟩) 25 25) ∧ LW w W' ∧ StrsIn W' (.slice (some ⟨W.heap.size, 0, none⟩) 25 25) Lx.words ∧ StrsIn W' V Lx.words := fun W V h hV => (refWords W).mono fun e W' h' => by
        obtain ⟨rfl, rfl⟩ := h'
        exact ⟨rfl, h.alloc _, strsWords _, hV.below (grown_below (World.grownBy_alloc _ _ _))⟩
      have hss : ∀ W V U (h : LW w W), StrsIn W V Lx.words → StrsIn W U Lx.words → Calls Tryz.prog 19 #[V, U] W fun e W' => e = .returned (.bool true) ∧ LW w W' := fun W V U h hV hU => (lawSameStr _ _ V U W hV hU (by decide) (by decide)).mono fun e W' h' => ⟨by rw [h'.1]; simp, h.go h'.2⟩
      clear hw HA HP HY hl3 H3
      go_wp2_with (first
        | (go_at_call 15; refine (lwTok (by assumption) _ _ _ _).mono ?_; rintro e W1 ⟨rfl, H1⟩)
        | (go_at_call 18; refine (hj1 _ (by assumption)).mono ?_; clear hj1; rintro e W2 ⟨rfl, H2⟩)
        | (go_at_call 18; refine (hj2 _ (by assumption)).mono ?_; clear hj2; rintro e W2 ⟨rfl, H2⟩)
        | (go_at_call 18; refine (hj3 _ (by assumption)).mono ?_; clear hj3; rintro e W2 ⟨rfl, H2⟩)
        | (go_at_call 20; refine (hws _ (by assumption)).mono ?_; clear hws; rintro e W2 ⟨rfl, H2, hV⟩)
        | (go_at_call 21; refine (hwr _ _ (by assumption) hV).mono ?_; clear hwr; rintro e W3 ⟨rfl, H3, hU, hV3⟩)
        | (go_at_call 19; refine (hss _ _ _ (by assumption) hV3 hU).mono ?_; clear hss; rintro e W4 ⟨rfl, H4⟩))
      go_ret
      exact ⟨rfl, H4⟩

end Go.Proofs.YtbhdkkkaeabkhaaGreatDoor
