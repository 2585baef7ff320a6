/-
  coillaw1.says: is a text cut into these?
  coillaw1.LexRuns: chapter 1's runs.
  Small helpers of the laws: few; LexRuns as the last test of each.
  The walks of bare and short.
  The walk of short.
  coilref1.Tokens.
  Plain laws about a wrong place's reason.
-/
import Derived.Test.YtbhdkkkaeabkhaaGreatDoorM13
import Derived.Test.YtbhdkkkaeabkhaaGreatDoorM11
import Derived.Test.YtbhdkkkaeabkhaaGreatDoorM16
import Derived.StillTailTactics
namespace Go.Proofs.YtbhdkkkaeabkhaaGreatDoor
open Go.RowKit Go.Shelf
set_option linter.unusedSimpArgs false
set_option linter.unusedVariables false

theorem row_toks {w w' : World} {v : Value} {ts : List Lx.Tok} {base : Nat} (h : RowT w base v ts) : ToksIn w v ts := by
  rcases h with ⟨rfl, rfl⟩ | ⟨g, cur, rfl, _, h1, h2, h3⟩
  · exact .inl ⟨rfl, none, 0, rfl⟩
  · exact .inr ⟨g, _, cur, _, rfl, h1, h3⟩

/-- A law's world: nothing that was there is touched. -/
structure LW (w W : World) : Prop where
  b : Below w.heap.size w W
  g : GL W
  n : NG ≤ W.heap.size
theorem LW.refl {w : World} (hG : GL w) (hN : NG ≤ w.heap.size) : LW w w := ⟨Below.refl _ _, hG, hN⟩
theorem LW.go {w W W' : World} (h : LW w W) (hb : Below W.heap.size W W') : LW w W' :=
  ⟨h.b.trans (hb.mono h.b.size), h.g.below hb, Nat.le_trans h.n hb.size⟩
theorem LW.alloc {w W : World} (h : LW w W) (o : Obj) : LW w (W.alloc o) := h.go (grown_below (World.grownBy_alloc _ _ _))
theorem LW.drewN {w W : World} (h : LW w W) (n : Nat) : LW w (W.drewN n) := h.go (Below.drewN (Below.refl _ _) n)

theorem lwTok {w W : World} (h : LW w W) (k a n : Int) (s : ByteArray) : Calls Tryz.prog 15 #[.int .i64 k, .int .i64 a, .int .i64 n, .string s] W fun e W' => e = .returned (.agg #[.int .i64 a, .int .i64 k, .string s, .int .i64 n]) ∧ LW w W' :=
  (lawToken k a n s W).mono fun e W' h' => ⟨h'.1, h.go (grown_below h'.2)⟩
theorem lwTokens {w W : World} (h : LW w W) (s : ByteArray) (hs : s.size ≤ 140737488351232) : Calls Tryz.prog 16 #[.string s] W fun e W' => LW w W' ∧ Below W.heap.size W W' ∧ TokIs W (Lx.toks s.data.toList) e W' :=
  (lexTokens s W h.g.gs h.n hs).mono fun e W' h' => ⟨h.go (grown_below h'.1), grown_below h'.1, h'⟩
theorem lwSame {w W : World} (h : LW w W) {ts us : List Lx.Tok} {v u : Value} (hv : ToksIn W v ts) (hu : ToksIn W u us) (hl : ts.length ≤ 1000000000) (hl2 : us.length ≤ 1000000000) :
    Calls Tryz.prog 25 #[v, u] W fun e W' => e = .returned (.bool (decide (ts = us))) ∧ LW w W' :=
  (lawSameTok ts us v u W hv hu hl hl2).mono fun e W' h' => ⟨h'.1, h.go h'.2⟩

def saysB (s : Lx.Bytes) (ts : List Lx.Tok) : Bool := match Lx.toks s with | (l, none) => decide (l = ts) | _ => false

set_option maxHeartbeats 4000000 in
theorem lawSays (s : ByteArray) (ts : List Lx.Tok) (v : Value) (w : World) (hG : GL w) (hN : NG ≤ w.heap.size) (hs : s.size ≤ 140737488351232) (hv : ToksIn w v ts) (hl : ts.length ≤ 1000000000) :
    Calls Tryz.prog 14 #[.string s, v] w fun e w' => e = .returned (.bool (saysB s.data.toList ts)) ∧ LW w w' := by
  have hT := lwTokens (LW.refl hG hN) s hs
  have hcl := toks_length s.data.toList
  obtain ⟨⟨l, o⟩, hr⟩ : ∃ r, Lx.toks s.data.toList = r := ⟨_, rfl⟩
  rw [hr] at hT hcl
  have hB : saysB s.data.toList ts = (match (l, o) with | (l, none) => decide (l = ts) | _ => false) := by unfold saysB; rw [hr]
  clear hr hG hN
  cases o with
  | some yx =>
    obtain ⟨y, x⟩ := yx
    have HB := Lib.hid hB
    clear hB
    go_enter Tryz.func14, Tryz.ntmps14
    go_wp2_with (go_at_call 16; refine hT.mono ?_; clear hT; rintro e W1 ⟨h1, -, -, g, rfl, hR, -⟩)
    go_ret
    rw [HB.out]
    exact ⟨rfl, h1⟩
  | none =>
    have HB := Lib.hid (show saysB s.data.toList ts = decide (l = ts) from hB)
    clear hB
    go_enter Tryz.func14, Tryz.ntmps14
    go_wp2_with (first
      | (go_at_call 16; refine hT.mono ?_; clear hT; rintro e W1 ⟨h1, hb1, -, u, rfl, hrow⟩; have hu := row_toks (w' := W1) hrow; have hv1 := hv.below hb1)
      | (go_at_call 25; refine (lwSame h1 hu hv1 (by simpa using Nat.le_trans hcl (by decide)) hl).mono ?_; rintro e W2 ⟨rfl, h2⟩))
    go_ret
    rw [HB.out]
    exact ⟨rfl, h2⟩

end Go.Proofs.YtbhdkkkaeabkhaaGreatDoor

namespace Go.Proofs.YtbhdkkkaeabkhaaGreatDoor
open Go.RowKit Go.Shelf
set_option linter.unusedSimpArgs false
set_option linter.unusedVariables false

theorem lwJoin {w W : World} (h : LW w W) {ts : List Lx.Tok} {v : Value} (hv : ToksIn W v ts) (hl : ts.length ≤ 1000000000) (hts : ∀ t ∈ ts, t.s.length ≤ 1000000000 ∧ -9223372036854775808 ≤ t.n ∧ t.n ≤ 9223372036854775807) :
    Calls Tryz.prog 18 #[v] W fun e W' => e = .returned (.tuple #[.string ⟨(Lx.join ts).1.toArray⟩, .int .i64 (Lx.join ts).2]) ∧ LW w W' :=
  (lexJoin ts v W h.g.gs h.n hv hl hts).mono fun e W' h' => ⟨h'.1, h.go h'.2⟩
theorem lwRefused {w W : World} (h : LW w W) (g x y : Nat) (a b : Int) (hR : IsRef W g x y) (hx : x ≤ 9223372036854775807) (hy : y ≤ 1000000) :
    Calls Tryz.prog 17 #[.iface 74 (.pointer (some ⟨g, 0, none⟩)), .int .i64 a, .int .i64 b] W fun e W' => e = .returned (.bool ((x : Int) == a && (y : Int) == b)) ∧ LW w W' :=
  (lawRefused g x y a b W hR h.g (by omega) (by omega) (by omega) (by omega)).mono fun e W' h' => ⟨h'.1, h.go h'.2⟩

def runs1 : List Lx.Tok := [⟨0, 3, [108, 101, 116], 0⟩, ⟨4, 1, [120], 0⟩, ⟨6, 6, [61], 0⟩, ⟨8, 4, [], 5⟩, ⟨9, 6, [59], 0⟩]
def runs2 : List Lx.Tok := [⟨0, 2, [65], 0⟩, ⟨1, 6, [61, 61], 0⟩, ⟨3, 1, [97], 0⟩]
def runs3 : List Lx.Tok := [⟨0, 5, [97, 10, 34], 0⟩]
def runs4 : List Lx.Tok := [⟨0, 4, [], 0⟩]

theorem lwSays {w W : World} (h : LW w W) (s : ByteArray) (ts : List Lx.Tok) (v : Value) (hs : s.size ≤ 140737488351232) (hv : ToksIn W v ts) (hl : ts.length ≤ 1000000000) (hT : saysB s.data.toList ts = true) :
    Calls Tryz.prog 14 #[.string s, v] W fun e W' => e = .returned (.bool true) ∧ LW w W' :=
  (lawSays s ts v W h.g h.n hs hv hl).mono fun e W' h' => ⟨by rw [← hT]; exact h'.1, h.go h'.2.b⟩
theorem toks_new (W : World) (ts : List Lx.Tok) (cs : Array Value) (n c : Nat) (hn : n = ts.length) (hc : cs.toList = ts.flatMap cellsT) : ToksIn (W.alloc (.cells cs 26)) (.slice (some ⟨W.heap.size, 0, none⟩) n c) ts := by
  subst hn
  refine .inr ⟨W.heap.size, c, cs, (0, 0), rfl, heap_alloc_new W _, ?_⟩
  rw [hc, List.take_of_length_le]
  have : ∀ l : List Lx.Tok, (l.flatMap cellsT).length = l.length * 4 := by
    intro l
    induction l with
    | nil => rfl
    | cons t l ih => rw [List.flatMap_cons, List.length_append, ih, List.length_cons]; simp [cellsT]; omega
  rw [this]
  exact Nat.le_refl _

def runTexts : List Lx.Bytes := [[48, 48, 55], [49, 97], [57, 50, 50, 51, 51, 55, 50, 48, 51, 54, 56, 53, 52, 55, 55, 53, 56, 48, 56], [120, 32, 35, 32, 121], [97, 32, 47, 32, 98], [34, 97], [34, 97, 92, 120, 34], [195, 169],
  [97, 98, 99, 100, 101, 102, 103, 104, 105, 106, 97, 98, 99, 100, 101, 102, 103, 104, 105, 106, 97, 98, 99, 100, 101, 102, 103, 104, 105, 106, 97, 98, 99]]
def runPlaces : List Nat := [0, 0, 0, 2, 2, 2, 3, 0, 32]
def runWhys : List Nat := [11, 11, 11, 10, 10, 12, 12, 10, 2]
def runCells (l : List Nat) : Array Value := (l.map fun (n : Nat) => Value.int .i64 (n : Int)).toArray
theorem runs_key : ((List.range 9).all fun m => (Lx.toks (runTexts.getD m [])).2 == some (runWhys.getD m 0, runPlaces.getD m 0)) = true := by kernel_rfl
theorem runs_cut (m : Nat) (hm : m < 9) : ∃ l, Lx.toks (runTexts.getD m []) = (l, some (runWhys.getD m 0, runPlaces.getD m 0)) := by
  have h := List.all_eq_true.1 runs_key m (List.mem_range.2 hm)
  exact ⟨_, Prod.ext rfl (by simpa using h)⟩
theorem runs_bound : ∀ m, m < 9 → runWhys.getD m 0 ≤ 1000 ∧ runPlaces.getD m 0 ≤ 1000 ∧ (runTexts.getD m []).length ≤ 1000 := by decide
theorem runCells_at (l : List Nat) (m : Nat) (h : m < l.length) : (runCells l)[m]? = some (.int .i64 ((l.getD m 0 : Nat) : Int)) := by
  unfold runCells
  rw [List.getElem?_toArray, List.getElem?_map, List.getD_eq_getElem?_getD, List.getElem?_eq_getElem h]
  rfl
def runTextCells : Array Value := (runTexts.map fun s => Value.string ⟨s.toArray⟩).toArray
theorem runTextCells_at (m : Nat) (h : m < 9) : runTextCells[m]? = some (.string ⟨(runTexts.getD m []).toArray⟩) := by
  have hl : runTexts.length = 9 := rfl
  unfold runTextCells
  rw [List.getElem?_toArray, List.getElem?_map, List.getD_eq_getElem?_getD, List.getElem?_eq_getElem (by omega)]
  rfl

def runs5 : List Lx.Tok := [⟨5, 5, [97, 10], 0⟩, ⟨1, 1, [98], 0⟩]
def runs6 : List Lx.Tok := [⟨0, 1, [108, 101, 116], 0⟩]

theorem saysRuns {w W : World} (h : LW w W) (s : ByteArray) (ts : List Lx.Tok) (n : Nat) (hn : n = ts.length) (hs : s.size ≤ 1000) (hl : ts.length ≤ 1000) (hT : saysB s.data.toList ts = true) :
    Calls Tryz.prog 14 #[.string s, .slice (some ⟨W.heap.size, 0, none⟩) n n] (W.alloc (.cells (ts.flatMap cellsT).toArray 26)) fun e W' => e = .returned (.bool true) ∧ LW w W' :=
  lwSays (h.alloc _) s ts _ (by omega) (toks_new W ts _ n n hn rfl) (by omega) hT

set_option maxRecDepth 100000 in
set_option maxHeartbeats 8000000 in
theorem lawRuns (w : World) (hG : GL w) (hN : NG ≤ w.heap.size) : Calls Tryz.prog 3 #[] w fun e w' => e = .returned (.bool true) ∧ LW w w' := by
  have H0 := LW.refl hG hN
  have hs1 := fun W (h : LW w W) => saysRuns h ⟨#[108, 101, 116, 32, 120, 32, 61, 32, 53, 59]⟩ runs1 5 rfl (by decide) (by decide) (by kernel_rfl)
  have hs2 := fun W (h : LW w W) => saysRuns h ⟨#[65, 61, 61, 97]⟩ runs2 3 rfl (by decide) (by decide) (by kernel_rfl)
  have hs3 := fun W (h : LW w W) => saysRuns h ⟨#[34, 97, 92, 110, 92, 34, 34, 32, 47, 47, 32, 98]⟩ runs3 1 rfl (by decide) (by decide) (by kernel_rfl)
  have hs4 := fun W (h : LW w W) => saysRuns h ⟨#[48]⟩ runs4 1 rfl (by decide) (by decide) (by kernel_rfl)
  have hs5 := fun W (h : LW w W) => lwSays h ⟨#[47, 47, 32, 120]⟩ [] (.slice none 0 0) (by decide) (.inl ⟨rfl, none, 0, rfl⟩) (by decide) (by kernel_rfl)
  clear hG hN
  go_enter Tryz.func3, Tryz.ntmps3
  go_upto_region 8 with (first
    | (go_at_call 15; refine (lwTok (by assumption) _ _ _ _).mono ?_; rintro e W1 ⟨rfl, H1⟩)
    | (go_at_call 14; refine (hs1 _ (by assumption)).mono ?_; clear hs1; rintro e W2 ⟨rfl, H2⟩)
    | (go_at_call 14; refine (hs2 _ (by assumption)).mono ?_; clear hs2; rintro e W2 ⟨rfl, H2⟩)
    | (go_at_call 14; refine (hs3 _ (by assumption)).mono ?_; clear hs3; rintro e W2 ⟨rfl, H2⟩)
    | (go_at_call 14; refine (hs4 _ (by assumption)).mono ?_; clear hs4; rintro e W2 ⟨rfl, H2⟩)
    | (go_at_call 14; refine (hs5 _ (by assumption)).mono ?_; clear hs5; rintro e W2 ⟨rfl, H2⟩))
  obtain ⟨B, hB⟩ : ∃ B, W2.heap.size = B := ⟨_, rfl⟩
  obtain ⟨W3, hW3⟩ : ∃ W3, ((W2.alloc (.cells runTextCells 9)).alloc (.cells (runCells runPlaces) 3)).alloc (.cells (runCells runWhys) 3) = W3 := ⟨_, rfl⟩
  have H3 : LW w W3 := by rw [← hW3]; exact ((H2.alloc _).alloc _).alloc _
  have hT3 : W3.heap[B]? = some (.cells runTextCells 9 (0, 0)) := by rw [← hW3, ← hB]; exact heap_alloc (heap_alloc (heap_alloc_new _ _) _) _
  have hP3 : W3.heap[B + 1]? = some (.cells (runCells runPlaces) 3 (0, 0)) := by rw [← hW3, ← hB]; have := heap_alloc (heap_alloc_new (W2.alloc (.cells runTextCells 9)) (.cells (runCells runPlaces) 3)) (.cells (runCells runWhys) 3); rwa [World.size_alloc] at this
  have hY3 : W3.heap[B + 1 + 1]? = some (.cells (runCells runWhys) 3 (0, 0)) := by rw [← hW3, ← hB]; have := heap_alloc_new ((W2.alloc (.cells runTextCells 9)).alloc (.cells (runCells runPlaces) 3)) (.cells (runCells runWhys) 3); rwa [World.size_alloc, World.size_alloc] at this
  show Code.wp _ _ _ _ (((W2.alloc (.cells runTextCells 9)).alloc (.cells (runCells runPlaces) 3)).alloc (.cells (runCells runWhys) 3))
  rw [hW3, hB]
  have HA := Lib.hid hT3
  have HP := Lib.hid hP3
  have HY := Lib.hid hY3
  have hl3 := lt_of_block hY3
  have hB3 : LW W3 W3 := LW.refl H3.g H3.n
  clear hT3 hP3 hY3 hW3 hB
  go_wp2_with fail
  go_loopg [4] 9 (fun n v wr => ∃ (m : Nat), n = 9 - m ∧ v = .int .i64 (m : Int) ∧ m ≤ 9 ∧ LW W3 wr)
  case atStart => exact ⟨0, rfl, rfl, by omega, hB3⟩
  case round =>
    obtain ⟨m, hn, rfl, hm, hw⟩ := hrel
    have hb := hw.b
    have HN := Lib.hid hn
    clear hn hB3
    by_cases hlt : m < 9
    · have hi : (m : Int) < 9 := by omega
      have hi0 : (0 : Int) ≤ (m : Int) := by omega
      obtain ⟨b1, b2, b3⟩ := runs_bound m hlt
      obtain ⟨l, hl⟩ := runs_cut m hlt
      have t0 := (cell_of ((hb.block _ (by omega)).trans HA.out) m).trans (runTextCells_at m hlt)
      have t1 := (cell_of ((hb.block _ (by omega)).trans HP.out) m).trans (runCells_at runPlaces m hlt)
      have t2 := (cell_of ((hb.block _ (by omega)).trans HY.out) m).trans (runCells_at runWhys m hlt)
      have hsz := hb.size
      have l0 : B < wr.heap.size := by omega
      have l1 : B + 1 < wr.heap.size := by omega
      have l2 : B + 1 + 1 < wr.heap.size := by omega
      obtain ⟨x, hx⟩ : ∃ x, runPlaces.getD m 0 = x := ⟨_, rfl⟩
      obtain ⟨y, hy⟩ : ∃ y, runWhys.getD m 0 = y := ⟨_, rfl⟩
      obtain ⟨s, hs⟩ : ∃ s, runTexts.getD m [] = s := ⟨_, rfl⟩
      rw [hx] at t1 b2 hl
      rw [hy] at t2 b1 hl
      rw [hs] at t0 b3 hl
      have hT := lwTokens hw ⟨s.toArray⟩ (by show s.length ≤ _; omega)
      rw [show (⟨s.toArray⟩ : ByteArray).data.toList = s from rfl, hl] at hT
      have e1 : ((x : Int) == (x : Int)) = true := by simp
      have e2 : ((y : Int) == (y : Int)) = true := by simp
      clear hx hy hs hl
      go_wp2_with (go_at_call 16; refine hT.mono ?_; clear hT; rintro e W5 ⟨h5, hb5, -, g, rfl, hR, -⟩)
      have t5 := (World.cell?_of_block (a := ⟨B + 1, m, none⟩) (hb5.block _ l1)).trans t1
      have t6 := (World.cell?_of_block (a := ⟨B + 1 + 1, m, none⟩) (hb5.block _ l2)).trans t2
      have l5 := Nat.lt_of_lt_of_le l1 hb5.size
      have l6 := Nat.lt_of_lt_of_le l2 hb5.size
      go_still_tail 13, (by kernel_rfl)
      change wpList _ _ _ _ _ W5.drew
      have h7 : LW W3 W5.drew := LW.drewN h5 1
      have hR7 : IsRef W5.drew g x y := hR
      obtain ⟨W7, hW7⟩ : ∃ W7, W5.drew = W7 := ⟨_, rfl⟩
      rw [hW7] at h7 hR7 ⊢
      clear hW7 t5 t6 l5 l6 hR h5
      have hq := lwRefused h7 g x y x y hR7 (by omega) (by omega)
      rw [e1, e2] at hq
      clear e1 e2
      go_wp2_with (go_at_call 17; refine hq.mono ?_; clear hq; rintro e W6 ⟨rfl, h6⟩)
      go_roundg (9 - (m + 1))
      case measure => have := HN.out; omega
      case rel => exact ⟨m + 1, rfl, by simp, hlt, h6⟩
    · have hi : ¬ (m : Int) < 9 := by omega
      have hw0 : LW w wr := ⟨H3.b.trans (hw.b.mono H3.b.size), hw.g, hw.n⟩
      have hj1 := fun W (h : LW w W) => lwJoin h (ts := []) (v := .slice none 0 0) (.inl ⟨rfl, none, 0, rfl⟩) (by decide) (by simp)
      have hj2 := fun W (h : LW w W) => lwJoin (h.alloc (.cells (runs5.flatMap cellsT).toArray 26)) (toks_new W runs5 _ 2 2 rfl rfl) (by decide) (by decide)
      have hj3 := fun W (h : LW w W) => lwJoin (h.alloc (.cells (runs6.flatMap cellsT).toArray 26)) (toks_new W runs6 _ 1 1 rfl rfl) (by decide) (by decide)
      rw [show Lx.join [] = ([], 0) from by kernel_rfl] at hj1
      rw [show Lx.join runs5 = ([34, 97, 92, 110, 34, 32, 98], 0) from by kernel_rfl] at hj2
      rw [show Lx.join runs6 = ([], 1) from by kernel_rfl] at hj3
      have hws : ∀ W (h : LW w W), Calls Tryz.prog 20 #[] W fun e W' => e = .returned (.slice (some ⟨W.heap.size, 0, none⟩) 25 25) ∧ LW w W' ∧ StrsIn W' (.slice (some ⟨W.heap.size, 0, none⟩) 25 25) Lx.words := fun W h => (lexWords W h.g.gs.asc).mono fun e W' h' => by
        obtain ⟨rfl, rfl⟩ := h'
        exact ⟨rfl, h.alloc _, strsWords _⟩
      have hwr : ∀ W V (h : LW w W), StrsIn W V Lx.words → Calls Tryz.prog 21 #[] W fun e W' => e = .returned (.slice (some ⟨W.heap.size, 0, none⟩) 25 25) ∧ LW w W' ∧ StrsIn W' (.slice (some ⟨W.heap.size, 0, none⟩) 25 25) Lx.words ∧ StrsIn W' V Lx.words := fun W V h hV => (refWords W).mono fun e W' h' => by
        obtain ⟨rfl, rfl⟩ := h'
        exact ⟨rfl, h.alloc _, strsWords _, hV.below (grown_below (World.grownBy_alloc _ _ _))⟩
      have hss : ∀ W V U (h : LW w W), StrsIn W V Lx.words → StrsIn W U Lx.words → Calls Tryz.prog 19 #[V, U] W fun e W' => e = .returned (.bool true) ∧ LW w W' := fun W V U h hV hU => (lawSameStr _ _ V U W hV hU (by decide) (by decide)).mono fun e W' h' => ⟨by rw [h'.1]; simp, h.go h'.2⟩
      clear hw HA HP HY hl3 H3
      go_wp2_with (first
        | (go_at_call 15; refine (lwTok (by assumption) _ _ _ _).mono ?_; rintro e W1 ⟨rfl, H1⟩)
        | (go_at_call 18; refine (hj1 _ (by assumption)).mono ?_; clear hj1; rintro e W2 ⟨rfl, H2⟩)
        | (go_at_call 18; refine (hj2 _ (by assumption)).mono ?_; clear hj2; rintro e W2 ⟨rfl, H2⟩)
        | (go_at_call 18; refine (hj3 _ (by assumption)).mono ?_; clear hj3; rintro e W2 ⟨rfl, H2⟩)
        | (go_at_call 20; refine (hws _ (by assumption)).mono ?_; clear hws; rintro e W2 ⟨rfl, H2, hV⟩)
        | (go_at_call 21; refine (hwr _ _ (by assumption) hV).mono ?_; clear hwr; rintro e W3 ⟨rfl, H3, hU, hV3⟩)
        | (go_at_call 19; refine (hss _ _ _ (by assumption) hV3 hU).mono ?_; clear hss; rintro e W4 ⟨rfl, H4⟩))
      go_ret
      exact ⟨rfl, H4⟩

end Go.Proofs.YtbhdkkkaeabkhaaGreatDoor

namespace Go.Proofs.YtbhdkkkaeabkhaaGreatDoor
open Go.RowKit Go.Shelf
set_option linter.unusedSimpArgs false
set_option linter.unusedVariables false

theorem lwRuns {w W : World} (h : LW w W) : Calls Tryz.prog 3 #[] W fun e W' => e = .returned (.bool true) ∧ LW w W' :=
  (lawRuns W h.g h.n).mono fun e W' h' => ⟨h'.1, h.go h'.2.b⟩

theorem lawFew (s : ByteArray) (n : Nat) (hn : n ≤ 1000000) (w : World) : Calls Tryz.prog 22 #[.string s, .int .i64 n] w fun e w' => ∃ B : ByteArray, e = .returned (.string B) ∧ B.data.toList = s.data.toList.take n ∧ B.size ≤ n ∧ w' = w := by
  have h0 : (0 : Int) ≤ (n : Int) := by omega
  by_cases hlt : n < s.size
  · have hi : (n : Int) < (s.size : Int) := by omega
    have hi2 : (n : Int) ≤ (s.size : Int) := by omega
    go_enter Tryz.func22, Tryz.ntmps22
    go_wp2
    go_ret
    have e : (s.extract 0 n).data.toList = s.data.toList.take n := by rw [Lib.extract_data]; simp
    exact ⟨_, rfl, e, by rw [← len_size, e, List.length_take]; omega, rfl⟩
  · have hi : ¬ (n : Int) < (s.size : Int) := by omega
    go_enter Tryz.func22, Tryz.ntmps22
    go_wp2
    go_ret
    exact ⟨_, rfl, by rw [List.take_of_length_le (by rw [len_size]; omega)], by omega, rfl⟩

theorem lwFew {w W : World} (h : LW w W) (s : ByteArray) (n : Nat) (hn : n ≤ 1000000) : Calls Tryz.prog 22 #[.string s, .int .i64 n] W fun e W' => ∃ B : ByteArray, e = .returned (.string B) ∧ B.data.toList = s.data.toList.take n ∧ B.size ≤ n ∧ LW w W' :=
  (lawFew s n hn W).mono fun e W' ⟨B, h1, h2, h3, h4⟩ => ⟨B, h1, h2, h3, by rw [h4]; exact h⟩
theorem LW.trans {w W X : World} (h : LW w W) (h' : LW W X) : LW w X := ⟨h.b.trans (h'.b.mono h.b.size), h'.g, h'.n⟩
theorem LW.self {w W : World} (h : LW w W) : LW W W := LW.refl h.g h.n
/-- A text that is cut without a fault. -/
theorem lwTokensOk {w W : World} (h : LW w W) (s : ByteArray) (hs : s.size ≤ 140737488351232) {ts : List Lx.Tok} (hT : Lx.toks s.data.toList = (ts, none)) :
    Calls Tryz.prog 16 #[.string s] W fun e W' => ∃ v, e = .returned (.tuple #[v, .nilIface]) ∧ LW w W' ∧ ToksIn W' v ts := by
  refine (lwTokens h s hs).mono ?_
  rw [hT]
  rintro e W' ⟨h1, h2, h3, v, rfl, hr⟩
  exact ⟨v, rfl, h1, row_toks (w' := W') hr⟩
/-- .. with a fault. -/
theorem lwTokensBad {w W : World} (h : LW w W) (s : ByteArray) (hs : s.size ≤ 140737488351232) {ts : List Lx.Tok} {y x : Nat} (hT : Lx.toks s.data.toList = (ts, some (y, x))) :
    Calls Tryz.prog 16 #[.string s] W fun e W' => ∃ g, e = .returned (.tuple #[.slice none 0 0, .iface 74 (.pointer (some ⟨g, 0, none⟩))]) ∧ LW w W' ∧ IsRef W' g x y := by
  refine (lwTokens h s hs).mono ?_
  rw [hT]
  rintro e W' ⟨h1, h2, h3, g, rfl, hr, _⟩
  exact ⟨g, rfl, h1, hr⟩
/-- One token joined, of a row just built. -/
theorem lwJoinNew {w W : World} (h : LW w W) (ts : List Lx.Tok) (n : Nat) (hn : n = ts.length) (hl : ts.length ≤ 1000000000) (hts : ∀ t ∈ ts, t.s.length ≤ 1000000000 ∧ -9223372036854775808 ≤ t.n ∧ t.n ≤ 9223372036854775807) {b : Lx.Bytes} {y : Nat} (hJ : Lx.join ts = (b, y)) :
    Calls Tryz.prog 18 #[.slice (some ⟨W.heap.size, 0, none⟩) n n] (W.alloc (.cells (ts.flatMap cellsT).toArray 26)) fun e W' => e = .returned (.tuple #[.string ⟨b.toArray⟩, .int .i64 y]) ∧ LW w W' := by
  have := lwJoin (h.alloc (.cells (ts.flatMap cellsT).toArray 26)) (toks_new W ts _ n n hn rfl) hl hts
  rw [hJ] at this
  exact this
theorem lwSameNew {w W : World} (h : LW w W) {ts : List Lx.Tok} {v : Value} (hv : ToksIn W v ts) (us : List Lx.Tok) (n : Nat) (hn : n = us.length) (hl : ts.length ≤ 1000000000) (hl2 : us.length ≤ 1000000000) :
    Calls Tryz.prog 25 #[v, .slice (some ⟨W.heap.size, 0, none⟩) n n] (W.alloc (.cells (us.flatMap cellsT).toArray 26)) fun e W' => e = .returned (.bool (decide (ts = us))) ∧ LW w W' :=
  lwSame (h.alloc _) (hv.below (grown_below (World.grownBy_alloc _ _ _))) (toks_new W us _ n n hn rfl) hl hl2

end Go.Proofs.YtbhdkkkaeabkhaaGreatDoor

namespace Go.Proofs.YtbhdkkkaeabkhaaGreatDoor
open Go.RowKit Go.Shelf
set_option linter.unusedSimpArgs false
set_option linter.unusedVariables false

theorem OwnT.toks {w : World} {base : Nat} {v : Value} {l : List Lx.Tok} (h : OwnT w base v l) : ToksIn w v l := by
  rcases h.2 with ⟨rfl, hn⟩ | ⟨g, cap, cur, rfl, hbg, hgb, hcap, hcm, hcs, htk⟩
  · exact .inl ⟨List.length_eq_zero_iff.1 hn, none, 0, rfl⟩
  · exact .inr ⟨g, cap, cur, (0, 0), rfl, hgb, htk⟩

set_option maxRecDepth 100000 in
set_option maxHeartbeats 8000000 in
theorem lawBare (ts : List Lx.Tok) (v : Value) (w : World) (hv : ToksIn w v ts) (hl : ts.length ≤ 1000000) :
    Calls Tryz.prog 35 #[v] w fun e w' => ∃ u, e = .returned u ∧ ToksIn w' u (ts.map Lx.Tok.bare) ∧ Below w.heap.size w w' := by
  obtain ⟨a0, c0, rfl⟩ := hv.slice
  have HV := Lib.hid hv
  clear hv
  have hl1 : (ts.length : Int) ≤ 1000000 := by omega
  go_enter Tryz.func35, Tryz.ntmps35
  go_wp2
  go_loopg [3, 4] (ts.length) (fun n r v wr => ∃ (m : Nat), n = ts.length - m ∧ v = .int .i64 (m : Int) ∧ m ≤ ts.length ∧ OwnT wr w.heap.size r ((ts.take m).map Lx.Tok.bare) ∧ Below w.heap.size w wr)
  case atStart => exact ⟨0, rfl, rfl, Nat.zero_le _, World.ownsRow_nil _ _ _ _, Below.refl _ _⟩
  case round =>
    obtain ⟨m, hn, rfl, hm, ho, hb⟩ := hrel
    have HN := Lib.hid hn
    have HO := Lib.hid ho
    clear hn ho
    by_cases hlt : m < ts.length
    · have hi : (m : Int) < (ts.length : Int) := by omega
      have hi0 : (0 : Int) ≤ (m : Int) := by omega
      have hmi : (m : Int) ≤ 1000000 := by omega
      obtain ⟨g, cur, fr, rfl, hgb, hcur⟩ := HV.out.at hlt
      have hgb' := (hb.block g (lt_of_block hgb)).trans hgb
      obtain ⟨t0, t1, t2, t3⟩ := toks_at hgb' hcur hlt
      have hgl := lt_of_block hgb'
      obtain ⟨t, ht⟩ : ∃ t, ts[m]'hlt = t := ⟨_, rfl⟩
      rw [ht] at t0 t1 t2 t3
      clear hgb hgb' hcur
      go_upto_region 7 with fail
      have hW := hb.alloc hb.size (.cells #[.int .i64 0, .int .i64 t.kind, .string ⟨t.s.toArray⟩, .int .i64 t.n] 26)
      have hbx := heap_alloc_new wr (.cells #[.int .i64 0, .int .i64 t.kind, .string ⟨t.s.toArray⟩, .int .i64 t.n] 26)
      have ho := HO.out.alloc (.cells #[.int .i64 0, .int .i64 t.kind, .string ⟨t.s.toArray⟩, .int .i64 t.n] 26)
      obtain ⟨W, hWe⟩ : ∃ W, wr.alloc (.cells #[.int .i64 0, .int .i64 t.kind, .string ⟨t.s.toArray⟩, .int .i64 t.n] 26) = W := ⟨_, rfl⟩
      rw [hWe] at hW hbx ho ⊢
      obtain ⟨b0, b1, b2, b3⟩ := four_cells hbx
      have hbl := lt_of_block hbx
      clear hWe t0 t1 t2 t3
      have hmm : ((ts.take m).map Lx.Tok.bare).length = m := by rw [List.length_map, List.length_take]; omega
      have HTM := Lib.hid (show (ts.take (m + 1)).map Lx.Tok.bare = (ts.take m).map Lx.Tok.bare ++ [t.bare] by rw [List.take_succ_eq_append_getElem hlt, ht, List.map_append]; rfl)
      have ho' : W.ownsRow w.heap.size 26 4 u3 m (((ts.take m).map Lx.Tok.bare).flatMap cellsT) := by have := ho; unfold OwnT at this; rw [hmm] at this; exact this
      obtain ⟨i0, hi', hz0, hz1, hz2⟩ := info_parts infoTok
      have hsz := hW.size
      clear ht
      go_wp2_with (at_builtin; refine wpList_append_own _ rfl _ _ 28 rfl w.heap.size 26 i0 _ 4 40 Tryz.underlying28 hi' hz0 hz1 hz2 rfl (by decide) _ _ _ rfl (ho'.alloc _) ⟨W.heap.size, 0, none⟩ 1 1 (cellsT t.bare) rfl rfl (cells_new _ _ _) (by simp [cellsT, Value.oneCell']) (by unfold maxLen; omega) (by omega) (by simp; omega) ?_; intro v' w1 hown' hgrow _)
      go_roundg (ts.length - (m + 1))
      case measure => have := HN.out; omega
      case rel =>
        refine ⟨m + 1, rfl, by simp, hlt, ?_, ?_⟩
        · unfold OwnT
          rw [HTM.out, List.length_append, hmm, List.flatMap_append]
          simpa using hown'
        · refine Below.turn (hW.alloc hsz _) hgrow (fun r e => ?_)
          exact (row_kind ho' r e).1
    · have hi : ¬ (m : Int) < (ts.length : Int) := by omega
      go_wp2
      go_ret
      have h := HO.out.toks
      rw [List.take_of_length_le (by omega)] at h
      exact ⟨_, rfl, h, hb⟩

end Go.Proofs.YtbhdkkkaeabkhaaGreatDoor

namespace Go.Proofs.YtbhdkkkaeabkhaaGreatDoor
open Go.RowKit Go.Shelf
set_option linter.unusedSimpArgs false
set_option linter.unusedVariables false

def cutS (t : Lx.Tok) : Lx.Tok := { t with s := t.s.take 200 }
theorem TokAt.below {w w' : World} {b o : Nat} {t : Lx.Tok} (h : TokAt w b o t) (hb : Below w.heap.size w w') : TokAt w' b o t := by
  obtain ⟨h0, h1, h2, h3, h4⟩ := h
  have hl := World.block_lt_of_cell? w ⟨b, o, none⟩ h0
  have e : ∀ j, w'.cell? ⟨b, j, none⟩ = w.cell? ⟨b, j, none⟩ := fun j => World.cell?_of_block (hb.block b hl)
  exact ⟨(e _).trans h0, (e _).trans h1, (e _).trans h2, (e _).trans h3, h4⟩

set_option maxRecDepth 100000 in
set_option maxHeartbeats 8000000 in
theorem lawShort (ts : List Lx.Tok) (v : Value) (w : World) (hv : ToksArg w v ts) :
    Calls Tryz.prog 31 #[v, .int .i64 300] w fun e w' => ∃ u, e = .returned u ∧ ToksIn w' u ((ts.take 300).map cutS) ∧ Below w.heap.size w w' := by
  obtain ⟨a0, c0, rfl, hat⟩ := hv
  go_enter Tryz.func31, Tryz.ntmps31
  go_wp2
  go_loopg [5, 6] (ts.length) (fun n r v wr => ∃ (m : Nat), n = ts.length - m ∧ v = .int .i64 (m : Int) ∧ m ≤ ts.length ∧ m ≤ 300 ∧ OwnT wr w.heap.size r ((ts.take m).map cutS) ∧ Below w.heap.size w wr)
  case atStart => exact ⟨0, rfl, rfl, Nat.zero_le _, by omega, World.ownsRow_nil _ _ _ _, Below.refl _ _⟩
  case round =>
    obtain ⟨m, hn, rfl, hm, hm3, ho, hb⟩ := hrel
    have HN := Lib.hid hn
    have HO := Lib.hid ho
    clear hn ho
    have hmi : (m : Int) ≤ 300 := by omega
    have hi0 : (0 : Int) ≤ (m : Int) := by omega
    by_cases hlt : m < ts.length
    · have hi : (m : Int) < (ts.length : Int) := by omega
      by_cases h300 : m < 300
      · have hi3 : (m : Int) < 300 := by omega
        obtain ⟨b, off, rfl, hta⟩ := hat m hlt
        obtain ⟨t0, t1, t2, t3, t4, t5⟩ := hta.below hb
        have hgl := World.block_lt_of_cell? wr ⟨b, _, none⟩ t0
        simp only at hgl
        obtain ⟨t, ht⟩ : ∃ t, ts[m]'hlt = t := ⟨_, rfl⟩
        rw [ht] at t0 t1 t2 t3 t4 t5
        have HAT := Lib.hid hat
        clear hta hat
        go_upto_region 7 with (go_at_call 22; refine (lawFew ⟨t.s.toArray⟩ 200 (by omega) _).mono ?_; rintro e W1 ⟨B, rfl, hB, hBs, rfl⟩)
        have hBe : B = ⟨(t.s.take 200).toArray⟩ := by rw [← mk_back B, hB]
        subst hBe
        have hc : Value.string ⟨(t.s.take 200).toArray⟩ = .string ⟨(cutS t).s.toArray⟩ := rfl
        have hW := hb.alloc hb.size (.cells #[.int .i64 t.pos, .int .i64 t.kind, .string ⟨(t.s.take 200).toArray⟩, .int .i64 t.n] 26)
        have hbx := heap_alloc_new wr (.cells #[.int .i64 t.pos, .int .i64 t.kind, .string ⟨(t.s.take 200).toArray⟩, .int .i64 t.n] 26)
        have ho := HO.out.alloc (.cells #[.int .i64 t.pos, .int .i64 t.kind, .string ⟨(t.s.take 200).toArray⟩, .int .i64 t.n] 26)
        obtain ⟨W, hWe⟩ : ∃ W, wr.alloc (.cells #[.int .i64 t.pos, .int .i64 t.kind, .string ⟨(t.s.take 200).toArray⟩, .int .i64 t.n] 26) = W := ⟨_, rfl⟩
        rw [hWe] at hW hbx ho ⊢
        obtain ⟨b0, b1, b2, b3⟩ := four_cells hbx
        have hbl := lt_of_block hbx
        clear hWe t0 t1 t2 t3 t4 t5 hB hBs hc
        have hmm : ((ts.take m).map cutS).length = m := by rw [List.length_map, List.length_take]; omega
        have HTM := Lib.hid (show (ts.take (m + 1)).map cutS = (ts.take m).map cutS ++ [cutS t] by rw [List.take_succ_eq_append_getElem hlt, ht, List.map_append]; rfl)
        have ho' : W.ownsRow w.heap.size 26 4 u5 m (((ts.take m).map cutS).flatMap cellsT) := by have := ho; unfold OwnT at this; rw [hmm] at this; exact this
        obtain ⟨i0, hi', hz0, hz1, hz2⟩ := info_parts infoTok
        have hsz := hW.size
        clear ht
        go_wp2_with (at_builtin; refine wpList_append_own _ rfl _ _ 28 rfl w.heap.size 26 i0 _ 4 40 Tryz.underlying28 hi' hz0 hz1 hz2 rfl (by decide) _ _ _ rfl (ho'.alloc _) ⟨W.heap.size, 0, none⟩ 1 1 (cellsT (cutS t)) rfl rfl (cells_new _ _ _) (by simp [cellsT, Value.oneCell']) (by unfold maxLen; omega) (by omega) (by simp; omega) ?_; intro v' w1 hown' hgrow _)
        go_roundg (ts.length - (m + 1))
        case measure => have := HN.out; omega
        case rel =>
          refine ⟨m + 1, rfl, by simp, hlt, by omega, ?_, ?_⟩
          · unfold OwnT
            rw [HTM.out, List.length_append, hmm, List.flatMap_append]
            simpa using hown'
          · refine Below.turn (hW.alloc hsz _) hgrow (fun r e => ?_)
            exact (row_kind ho' r e).1
      · have hi3 : ¬ (m : Int) < 300 := by omega
        clear hat
        go_wp2
        go_ret
        have h := HO.out.toks
        rw [show m = 300 by omega, List.map_take] at h
        exact ⟨_, rfl, h, hb⟩
    · have hi : ¬ (m : Int) < (ts.length : Int) := by omega
      clear hat
      go_wp2
      go_ret
      have h := HO.out.toks
      rw [List.take_of_length_le (by omega)] at h
      rw [List.take_of_length_le (by rw [List.length_map]; omega)]
      exact ⟨_, rfl, h, hb⟩

end Go.Proofs.YtbhdkkkaeabkhaaGreatDoor

namespace Go.Proofs.YtbhdkkkaeabkhaaGreatDoor
open Go.RowKit
set_option linter.unusedSimpArgs false
set_option linter.unusedVariables false

/-- What Tokens tells of a wrong place. -/
def whyR (o : Option (Nat × Nat)) : Int := ((o.map Prod.fst).getD 0 : Nat)
def placeR (o : Option (Nat × Nat)) : Int := ((o.map Prod.snd).getD 0 : Nat)
theorem OwnT.slice {w : World} {base : Nat} {v : Value} {l : List Lx.Tok} (h : OwnT w base v l) : ∃ A c, v = .slice A l.length c := by
  rcases h.2 with ⟨rfl, h0⟩ | ⟨g, cap, cur, rfl, _⟩
  · exact ⟨none, 0, by rw [h0]⟩
  · exact ⟨_, cap, rfl⟩
theorem OwnT.base {w : World} {base : Nat} {v : Value} {l : List Lx.Tok} (h : OwnT w base v l) (k : Nat) (hk : v.ownBlock = some k) : base ≤ k := (World.ownsRow.lt h k hk).1
theorem OwnT.below {W W' : World} {v : Value} {l : List Lx.Tok} {base : Nat} (h : OwnT W base v l) (hb : Below W.heap.size W W') : OwnT W' base v l :=
  World.ownsRow.kept h (below_grown hb) (by cases v.ownBlock <;> simp)

section
variable {s : ByteArray} {p f i : Nat}
theorem tk_end (hp : p ≤ s.size) (hf : s.size - p < f) (hq : skipAt s p = s.size) : Lx.go f p i (s.data.toList.drop p) = ([], none) := by
  obtain ⟨g, rfl⟩ : ∃ g, f = g + 1 := ⟨f - 1, by omega⟩
  exact go_end hp hq
theorem tk_byte (hp : p ≤ s.size) (hf : s.size - p < f) (hq : skipAt s p < s.size) (hb : Lx.begins (s[skipAt s p]'hq) = false) : Lx.go f p i (s.data.toList.drop p) = ([], some (10, skipAt s p)) := by
  obtain ⟨g, rfl⟩ : ∃ g, f = g + 1 := ⟨f - 1, by omega⟩
  exact go_byte hp hq hb
theorem tk_many (hp : p ≤ s.size) (hf : s.size - p < f) (hq : skipAt s p < s.size) (hb : Lx.begins (s[skipAt s p]'hq) = true) (hi : i = 4096) : Lx.go f p i (s.data.toList.drop p) = ([], some (3, skipAt s p)) := by
  obtain ⟨g, rfl⟩ : ∃ g, f = g + 1 := ⟨f - 1, by omega⟩
  exact go_many hp hq hb hi
theorem tk_bad {y x : Nat} (hp : p ≤ s.size) (hf : s.size - p < f) (hq : skipAt s p < s.size) (hb : Lx.begins (s[skipAt s p]'hq) = true) (hi : i ≠ 4096) (h : Lx.cut (skipAt s p) (s.data.toList.drop (skipAt s p)) = .bad y x) :
    Lx.go f p i (s.data.toList.drop p) = ([], some (y, x)) := by
  obtain ⟨g, rfl⟩ : ∃ g, f = g + 1 := ⟨f - 1, by omega⟩
  exact go_bad hp hq hb hi h
theorem tk_ok {t : Lx.Tok} {n : Nat} (hp : p ≤ s.size) (hf : s.size - p < f) (hq : skipAt s p < s.size) (hb : Lx.begins (s[skipAt s p]'hq) = true) (hi : i ≠ 4096) (h : Lx.cut (skipAt s p) (s.data.toList.drop (skipAt s p)) = .ok t n) :
    ∃ g, s.size - (skipAt s p + n) < g ∧ Lx.go f p i (s.data.toList.drop p) = (t :: (Lx.go g (skipAt s p + n) (i + 1) (s.data.toList.drop (skipAt s p + n))).1, (Lx.go g (skipAt s p + n) (i + 1) (s.data.toList.drop (skipAt s p + n))).2) := by
  obtain ⟨g, rfl⟩ : ∃ g, f = g + 1 := ⟨f - 1, by omega⟩
  have h2 := cut_fits hq h
  have h3 := (skip_at s p hp).1
  exact ⟨g, by omega, go_ok hp hq hb hi h⟩
end

set_option maxRecDepth 100000 in
set_option maxHeartbeats 4000000 in
theorem refTokens (s : ByteArray) (w : World) (hs : s.size ≤ 140737488351232) :
    Calls Tryz.prog 24 #[.string s] w fun e w' => ∃ v, e = .returned (.tuple #[v, .int .i64 (placeR (Lx.toks s.data.toList).2), .int .i64 (whyR (Lx.toks s.data.toList).2)]) ∧ OwnT w' w.heap.size v (Lx.toks s.data.toList).1 ∧ Below w.heap.size w w' := by
  have hsi : (s.size : Int) ≤ 140737488351232 := by omega
  go_enter Tryz.func24, Tryz.ntmps24
  by_cases hbig : 65536 < s.size
  · have hbi : (65536 : Int) < (s.size : Int) := by omega
    have HR := Lib.hid (show Lx.toks s.data.toList = ([], some (2, 0)) by unfold Lx.toks; rw [if_pos (by rw [len_size]; exact hbig)])
    clear hbig
    go_wp2
    refine bodyPost_ret (results_tmp3 rfl _ _ _) rfl ?_
    rw [HR.out]
    exact ⟨_, rfl, World.ownsRow_nil _ _ _ _, Below.refl _ _⟩
  · have hbi : ¬ (65536 : Int) < (s.size : Int) := by omega
    have HT := Lib.hid (show Lx.toks s.data.toList = Lx.go (s.size + 1) 0 0 s.data.toList by unfold Lx.toks; rw [if_neg (by rw [len_size]; exact hbig), len_size])
    have hsk := refSkip s 0 w (Nat.zero_le _) hs
    clear hbig
    go_wp2_with (go_at_call 50; refine hsk.mono ?_; clear hsk; rintro e w' ⟨rfl, hwe⟩; rw [hwe]; clear hwe)
    go_loopg [5, 6] (s.size - skipAt s 0) (fun n r v wr => ∃ (p f : Nat) (ts : List Lx.Tok), n = s.size - skipAt s p ∧ v = .int .i64 ((skipAt s p : Nat) : Int) ∧ p ≤ s.size ∧ s.size - p < f ∧ ts.length ≤ 4096 ∧ OwnT wr w.heap.size r ts ∧ Below w.heap.size w wr ∧
      Lx.toks s.data.toList = (ts ++ (Lx.go f p ts.length (s.data.toList.drop p)).1, (Lx.go f p ts.length (s.data.toList.drop p)).2))
    case atStart => exact ⟨0, s.size + 1, [], rfl, rfl, Nat.zero_le _, by omega, by simp, World.ownsRow_nil _ _ _ _, Below.refl _ _, by rw [HT.out]; rfl⟩
    case round =>
      obtain ⟨p, f, ts, hn, rfl, hp, hf, hl, ho, hb, he⟩ := hrel
      obtain ⟨A0, cap0, hv⟩ := ho.slice
      subst hv
      have HN := Lib.hid hn
      have HO := Lib.hid ho
      have HB := Lib.hid hb
      have HE := Lib.hid he
      have HF := Lib.hid hf
      have HP := Lib.hid hp
      have hsq := skip_at s p hp
      obtain ⟨m, hm⟩ : ∃ m, skipAt s p = m := ⟨_, rfl⟩
      rw [hm] at hsq HN ⊢
      have hpm : p ≤ m := hsq.1
      have hms : m ≤ s.size := hsq.2.1
      have HM := Lib.hid hm
      have m0 : (0 : Int) ≤ (m : Int) := by omega
      have hli : (ts.length : Int) ≤ 4096 := by omega
      clear hn ho hb he hf hsq hm
      by_cases hlt : m < s.size
      · have hi : (m : Int) < (s.size : Int) := by omega
        have hbg := fun X => refBegins (s[m]'hlt) X
        have hca := fun X => refCut s m X hlt hs
        have HD := Lib.hid (byte_at s m hlt)
        cases hbe : Lx.begins (s[m]'hlt) with
        | false =>
          have HR := Lib.hid (show Lx.toks s.data.toList = (ts, some (10, m)) by
            rw [HE.out, tk_byte HP.out HF.out (by rw [HM.out]; exact hlt) (by simp only [HM.out]; exact hbe), HM.out, List.append_nil])
          rw [hbe] at hbg
          rw [HD.out, cutR_not hbe] at hca
          clear hbe
          by_cases h4 : ts.length = 4096
          · have b4 : ((ts.length : Int) == 4096) = true := by simp; omega
            clear h4
            rw [show cutV m (.bad 10 m) = .agg #[.int .i64 0, .int .i64 0, .string ⟨#[]⟩, .int .i64 0, .int .i64 0, .int .i64 10, .int .i64 (m : Nat)] from rfl] at hca

            go_upto_region 9 with (first | (go_at_call 51; refine (hbg _).mono ?_; clear hbg; rintro e Wb ⟨rfl, hbb⟩) | (go_at_call 52; refine (hca _).mono ?_; clear hca; rintro e Wc ⟨rfl, hbc⟩; have hbq := Below.chain hbb hbc))
            have hx5 := heap_alloc_new Wc (.cells #[.int .i64 0, .int .i64 0, .string ⟨#[]⟩, .int .i64 0, .int .i64 0, .int .i64 10, .int .i64 (m : Nat)] 96)
            have ho5 : OwnT (Wc.alloc (.cells #[.int .i64 0, .int .i64 0, .string ⟨#[]⟩, .int .i64 0, .int .i64 0, .int .i64 10, .int .i64 (m : Nat)] 96)) w.heap.size (.slice A0 ts.length cap0) ts := World.ownsRow.alloc (HO.out.below hbq) _
            have hb5 : Below w.heap.size w (Wc.alloc (.cells #[.int .i64 0, .int .i64 0, .string ⟨#[]⟩, .int .i64 0, .int .i64 0, .int .i64 10, .int .i64 (m : Nat)] 96)) := BAlloc (Below.chain HB.out hbq)
            have hne : ∀ r, (Value.slice A0 ts.length cap0).ownBlock = some r → r ≠ Wc.heap.size := fun r e => by have := (World.ownsRow.lt HO.out r e).2; have := hbq.size; omega
            obtain ⟨L, hL⟩ : ∃ L, Wc.heap.size = L := ⟨_, rfl⟩
            rw [hL] at hne
            obtain ⟨W5, hW5⟩ : ∃ W5, Wc.alloc (.cells #[.int .i64 0, .int .i64 0, .string ⟨#[]⟩, .int .i64 0, .int .i64 0, .int .i64 10, .int .i64 (m : Nat)] 96) = W5 := ⟨_, rfl⟩
            rw [hL, hW5] at hx5
            rw [hW5] at ho5 hb5
            rw [hL, hW5]
            obtain ⟨⟨p0, p1, p2, p3, p4, p5, p6⟩, -, hl0⟩ := seven_cells hx5
            have HO5 := Lib.hid ho5
            have HB5 := Lib.hid hb5
            clear hx5 ho5 hb5 hL hW5 hbq
            go_wp2_with fail
            go_quiet (fail)
            go_wp2_with fail
            refine bodyPost_ret (results_tmp3 rfl _ _ _) rfl ?_
            rw [HR.out]
            exact ⟨_, rfl, (show OwnT (World.drewN _ _) _ _ _ from HO5.out), Below.drewN HB5.out _⟩
          · have b4 : ((ts.length : Int) == 4096) = false := by simp; omega
            clear h4
            rw [show cutV m (.bad 10 m) = .agg #[.int .i64 0, .int .i64 0, .string ⟨#[]⟩, .int .i64 0, .int .i64 0, .int .i64 10, .int .i64 (m : Nat)] from rfl] at hca

            go_upto_region 9 with (first | (go_at_call 51; refine (hbg _).mono ?_; clear hbg; rintro e Wb ⟨rfl, hbb⟩) | (go_at_call 52; refine (hca _).mono ?_; clear hca; rintro e Wc ⟨rfl, hbc⟩; have hbq := hbc))
            have hx5 := heap_alloc_new Wc (.cells #[.int .i64 0, .int .i64 0, .string ⟨#[]⟩, .int .i64 0, .int .i64 0, .int .i64 10, .int .i64 (m : Nat)] 96)
            have ho5 : OwnT (Wc.alloc (.cells #[.int .i64 0, .int .i64 0, .string ⟨#[]⟩, .int .i64 0, .int .i64 0, .int .i64 10, .int .i64 (m : Nat)] 96)) w.heap.size (.slice A0 ts.length cap0) ts := World.ownsRow.alloc (HO.out.below hbq) _
            have hb5 : Below w.heap.size w (Wc.alloc (.cells #[.int .i64 0, .int .i64 0, .string ⟨#[]⟩, .int .i64 0, .int .i64 0, .int .i64 10, .int .i64 (m : Nat)] 96)) := BAlloc (Below.chain HB.out hbq)
            have hne : ∀ r, (Value.slice A0 ts.length cap0).ownBlock = some r → r ≠ Wc.heap.size := fun r e => by have := (World.ownsRow.lt HO.out r e).2; have := hbq.size; omega
            obtain ⟨L, hL⟩ : ∃ L, Wc.heap.size = L := ⟨_, rfl⟩
            rw [hL] at hne
            obtain ⟨W5, hW5⟩ : ∃ W5, Wc.alloc (.cells #[.int .i64 0, .int .i64 0, .string ⟨#[]⟩, .int .i64 0, .int .i64 0, .int .i64 10, .int .i64 (m : Nat)] 96) = W5 := ⟨_, rfl⟩
            rw [hL, hW5] at hx5
            rw [hW5] at ho5 hb5
            rw [hL, hW5]
            obtain ⟨⟨p0, p1, p2, p3, p4, p5, p6⟩, -, hl0⟩ := seven_cells hx5
            have HO5 := Lib.hid ho5
            have HB5 := Lib.hid hb5
            clear hx5 ho5 hb5 hL hW5 hbq
            go_wp2_with fail
            go_quiet (fail)
            go_wp2_with fail
            refine bodyPost_ret (results_tmp3 rfl _ _ _) rfl ?_
            rw [HR.out]
            exact ⟨_, rfl, (show OwnT (World.drewN _ _) _ _ _ from HO5.out), Below.drewN HB5.out _⟩
        | true =>
          rw [hbe] at hbg
          by_cases h4 : ts.length = 4096
          · have b4 : ((ts.length : Int) == 4096) = true := by simp; omega
            have HR := Lib.hid (show Lx.toks s.data.toList = (ts, some (3, m)) by
              rw [HE.out, tk_many HP.out HF.out (by rw [HM.out]; exact hlt) (by simp only [HM.out]; exact hbe) h4, HM.out, List.append_nil])
            clear h4 hbe
            go_wp2_with (first | (go_at_call 51; refine (hbg _).mono ?_; clear hbg; rintro e Wb ⟨rfl, hbb⟩))
            refine bodyPost_ret (results_tmp3 rfl _ _ _) rfl ?_
            rw [HR.out]
            exact ⟨_, rfl, HO.out.below hbb, Below.chain HB.out hbb⟩
          · have b4 : ((ts.length : Int) == 4096) = false := by simp; omega
            rw [HD.out, cutR_begins hbe, ← HD.out] at hca
            cases hcut : Lx.cut m (s.data.toList.drop m) with
            | bad y x =>
              have HR := Lib.hid (show Lx.toks s.data.toList = (ts, some (y, x)) by
                rw [HE.out, tk_bad HP.out HF.out (by rw [HM.out]; exact hlt) (by simp only [HM.out]; exact hbe) h4 (by rw [HM.out]; exact hcut), List.append_nil])
              have hy := Lx.cut_why (by rw [← HD.out]; exact hcut)
              have hyb : ((y : Int) != 0) = true := by simp; omega
              rw [hcut] at hca
              clear hy h4 hcut hbe
              rw [show cutV m (.bad y x) = .agg #[.int .i64 0, .int .i64 0, .string ⟨#[]⟩, .int .i64 0, .int .i64 0, .int .i64 (y : Nat), .int .i64 (x : Nat)] from rfl] at hca

              go_upto_region 9 with (first | (go_at_call 51; refine (hbg _).mono ?_; clear hbg; rintro e Wb ⟨rfl, hbb⟩) | (go_at_call 52; refine (hca _).mono ?_; clear hca; rintro e Wc ⟨rfl, hbc⟩; have hbq := hbc))
              have hx5 := heap_alloc_new Wc (.cells #[.int .i64 0, .int .i64 0, .string ⟨#[]⟩, .int .i64 0, .int .i64 0, .int .i64 (y : Nat), .int .i64 (x : Nat)] 96)
              have ho5 : OwnT (Wc.alloc (.cells #[.int .i64 0, .int .i64 0, .string ⟨#[]⟩, .int .i64 0, .int .i64 0, .int .i64 (y : Nat), .int .i64 (x : Nat)] 96)) w.heap.size (.slice A0 ts.length cap0) ts := World.ownsRow.alloc (HO.out.below hbq) _
              have hb5 : Below w.heap.size w (Wc.alloc (.cells #[.int .i64 0, .int .i64 0, .string ⟨#[]⟩, .int .i64 0, .int .i64 0, .int .i64 (y : Nat), .int .i64 (x : Nat)] 96)) := BAlloc (Below.chain HB.out hbq)
              have hne : ∀ r, (Value.slice A0 ts.length cap0).ownBlock = some r → r ≠ Wc.heap.size := fun r e => by have := (World.ownsRow.lt HO.out r e).2; have := hbq.size; omega
              obtain ⟨L, hL⟩ : ∃ L, Wc.heap.size = L := ⟨_, rfl⟩
              rw [hL] at hne
              obtain ⟨W5, hW5⟩ : ∃ W5, Wc.alloc (.cells #[.int .i64 0, .int .i64 0, .string ⟨#[]⟩, .int .i64 0, .int .i64 0, .int .i64 (y : Nat), .int .i64 (x : Nat)] 96) = W5 := ⟨_, rfl⟩
              rw [hL, hW5] at hx5
              rw [hW5] at ho5 hb5
              rw [hL, hW5]
              obtain ⟨⟨p0, p1, p2, p3, p4, p5, p6⟩, -, hl0⟩ := seven_cells hx5
              have HO5 := Lib.hid ho5
              have HB5 := Lib.hid hb5
              clear hx5 ho5 hb5 hL hW5 hbq
              go_wp2_with fail
              go_quiet (fail)
              go_wp2_with fail
              refine bodyPost_ret (results_tmp3 rfl _ _ _) rfl ?_
              rw [HR.out]
              exact ⟨_, rfl, (show OwnT (World.drewN _ _) _ _ _ from HO5.out), Below.drewN HB5.out _⟩
            | ok t n =>
              obtain ⟨g, hg1, hg2⟩ := tk_ok (s := s) (p := p) (f := f) (i := ts.length) HP.out HF.out (by rw [HM.out]; exact hlt) (by simp only [HM.out]; exact hbe) h4 (by rw [HM.out]; exact hcut)
              rw [HM.out] at hg1 hg2
              have hfit := cut_fits hlt hcut
              have HG1 := Lib.hid hg1
              have HR := Lib.hid (show Lx.toks s.data.toList = ((ts ++ [t]) ++ (Lx.go g (m + n) (ts ++ [t]).length (s.data.toList.drop (m + n))).1, (Lx.go g (m + n) (ts ++ [t]).length (s.data.toList.drop (m + n))).2) by
                rw [HE.out, hg2, List.length_append, List.append_assoc]
                rfl)
              have hl' : ts.length + 1 ≤ 4096 := by omega
              have HFIT := Lib.hid hfit
              rw [hcut] at hca
              rw [show cutV m (.ok t n) = .agg #[.int .i64 t.pos, .int .i64 t.kind, .string ⟨t.s.toArray⟩, .int .i64 t.n, .int .i64 ((m + n : Nat) : Int), .int .i64 0, .int .i64 0] from rfl] at hca
              obtain ⟨q, hq⟩ : ∃ q, m + n = q := ⟨_, rfl⟩
              rw [hq] at hca HG1 HR HFIT
              have hsk := fun X => refSkip s q X HFIT.out.2 hs
              have hsk2 := (skip_at s q HFIT.out.2).1
              have HQ := Lib.hid hq
              have HMQ : Hid (m < q) := Lib.hid (by have := HFIT.out.1; omega)
              clear hg1 hg2 hfit h4 hcut hbe hq
              go_upto_region 9 with (first | (go_at_call 51; refine (hbg _).mono ?_; clear hbg; rintro e Wb ⟨rfl, hbb⟩) | (go_at_call 52; refine (hca _).mono ?_; clear hca; rintro e Wc ⟨rfl, hbc⟩; have hbq := hbc))
              have hx5 := heap_alloc_new Wc (.cells #[.int .i64 t.pos, .int .i64 t.kind, .string ⟨t.s.toArray⟩, .int .i64 t.n, .int .i64 (q : Nat), .int .i64 0, .int .i64 0] 96)
              have ho5 : OwnT (Wc.alloc (.cells #[.int .i64 t.pos, .int .i64 t.kind, .string ⟨t.s.toArray⟩, .int .i64 t.n, .int .i64 (q : Nat), .int .i64 0, .int .i64 0] 96)) w.heap.size (.slice A0 ts.length cap0) ts := World.ownsRow.alloc (HO.out.below hbq) _
              have hb5 : Below w.heap.size w (Wc.alloc (.cells #[.int .i64 t.pos, .int .i64 t.kind, .string ⟨t.s.toArray⟩, .int .i64 t.n, .int .i64 (q : Nat), .int .i64 0, .int .i64 0] 96)) := BAlloc (Below.chain HB.out hbq)
              have hne : ∀ r, (Value.slice A0 ts.length cap0).ownBlock = some r → r ≠ Wc.heap.size := fun r e => by have := (World.ownsRow.lt HO.out r e).2; have := hbq.size; omega
              obtain ⟨L, hL⟩ : ∃ L, Wc.heap.size = L := ⟨_, rfl⟩
              rw [hL] at hne
              obtain ⟨W5, hW5⟩ : ∃ W5, Wc.alloc (.cells #[.int .i64 t.pos, .int .i64 t.kind, .string ⟨t.s.toArray⟩, .int .i64 t.n, .int .i64 (q : Nat), .int .i64 0, .int .i64 0] 96) = W5 := ⟨_, rfl⟩
              rw [hL, hW5] at hx5
              rw [hW5] at ho5 hb5
              rw [hL, hW5]
              obtain ⟨⟨p0, p1, p2, p3, p4, p5, p6⟩, -, hl0⟩ := seven_cells hx5
              have HO5 := Lib.hid ho5
              have HB5 := Lib.hid hb5
              clear hx5 ho5 hb5 hL hW5 hbq
              have ho' : W5.ownsRow w.heap.size 26 4 (.slice A0 ts.length cap0) ts.length (ts.flatMap cellsT) := HO5.out
              have hW := HB5.out
              have hWsz := HB5.out.size
              obtain ⟨i0, hi', hz0, hz1, hz2⟩ := info_parts infoTok
              go_wp2_with (first
                | (at_builtin; refine wpList_append_own _ rfl _ _ 28 rfl w.heap.size 26 i0 _ 4 40 Tryz.underlying28 hi' hz0 hz1 hz2 rfl (by decide) _ _ _ rfl (ho'.alloc _) ⟨W5.heap.size, 0, none⟩ 1 1 (cellsT t) rfl rfl (cells_new _ _ _) (by simp [cellsT, Value.oneCell']) (by unfold maxLen; omega) (by omega) (by simp; omega) ?_; intro v' w1 hown' hgrow _; have hpp := (hgrow.block L (Nat.lt_of_lt_of_le hl0 (by simp)) (fun e => hne L e.symm rfl)).trans ((World.grownBy_alloc W5 _ none).block L hl0 (by simp)); have p4' := (World.cell?_of_block (a := ⟨L, 4, none⟩) hpp).trans p4; have hl6 : L < w1.heap.size := Nat.lt_of_lt_of_le hl0 (Nat.le_trans (by simp) hgrow.size); have ho6 := Lib.hid hown'; have hb6 := Lib.hid (Below.turn (hW.alloc hWsz _) hgrow (fun r e => OwnT.base HO5.out r e)); clear hown' hgrow hpp)
                | (go_at_call 50; refine (hsk _).mono ?_; clear hsk; rintro e w' ⟨rfl, hwe⟩; rw [hwe]; clear hwe))
              go_roundg (s.size - skipAt s q)
              case measure => have := HN.out; have := HMQ.out; have := HFIT.out; omega
              case rel =>
                refine ⟨q, g, ts ++ [t], rfl, rfl, HFIT.out.2, HG1.out, by rw [List.length_append]; exact hl', ?_, hb6.out, HR.out⟩
                unfold OwnT
                rw [List.length_append, List.flatMap_append]
                simpa using ho6.out
      · have hi : ¬ (m : Int) < (s.size : Int) := by omega
        have HR := Lib.hid (show Lx.toks s.data.toList = (ts, none) by
          rw [HE.out, tk_end HP.out HF.out (by rw [HM.out]; omega), List.append_nil])
        go_wp2
        refine bodyPost_ret (results_tmp3 rfl _ _ _) rfl ?_
        rw [HR.out]
        exact ⟨_, rfl, HO.out, HB.out⟩

end Go.Proofs.YtbhdkkkaeabkhaaGreatDoor

namespace Go.Proofs.YtbhdkkkaeabkhaaGreatDoor
open Go.RowKit
namespace Lx
theorem go_why : ∀ (f p i : Nat) (l : Bytes) (y x : Nat), (go f p i l).2 = some (y, x) → y ≠ 0
  | 0, _, _, _, y, x, h => by simp [go] at h
  | f + 1, p, i, l, y, x, h => by
    rw [go] at h
    simp only at h
    split at h
    · cases h
    · rename_i b r hr
      split at h
      · injection h with h; injection h with h1 h2; omega
      · split at h
        · injection h with h; injection h with h1 h2; omega
        · split at h
          · rename_i why x' hcut
            rw [hr] at hcut
            have := cut_why hcut
            injection h with h; injection h with h1 h2
            omega
          · exact go_why f _ _ _ y x h
theorem toks_why {l : Bytes} {ts : List Tok} {y x : Nat} (h : toks l = (ts, some (y, x))) : y ≠ 0 := by
  unfold toks at h
  split at h
  · injection h with _ h; injection h with h; injection h with h1 h2; omega
  · exact go_why _ _ _ _ y x (by rw [h])
end Lx
end Go.Proofs.YtbhdkkkaeabkhaaGreatDoor
