/-
  coillaw1.says: is a text cut into these?
-/
import Derived.Test.YtbhdkkkaeabkhaaGreatDoorLwSame
import Derived.Test.YtbhdkkkaeabkhaaGreatDoorLxRefused
import Derived.Test.YtbhdkkkaeabkhaaGreatDoorLwHelp
namespace Go.Proofs.YtbhdkkkaeabkhaaGreatDoor
open Go.RowKit Go.Shelf
set_option linter.unusedSimpArgs false
set_option linter.unusedVariables false

theorem row_toks {w w' : World} {v : Value} {ts : List Lx.Tok} {base : Nat} (h : RowT w base v ts) : ToksIn w v ts := by
  rcases h with ⟨rfl, rfl⟩ | ⟨g, cur, rfl, _, h1, h2, h3⟩
  · exact .inl ⟨rfl, none, 0, rfl⟩
  · exact .inr ⟨g, _, cur, _, rfl, h1, h3⟩

/-- A law's world: nothing that was there is touched. -/
structure LW (w W : World) : Prop where
  b : Below w.heap.size w W
  g : GL W
  n : NG ≤ W.heap.size
theorem LW.refl {w : World} (hG : GL w) (hN : NG ≤ w.heap.size) : LW w w := ⟨Below.refl _ _, hG, hN⟩
theorem LW.go {w W W' : World} (h : LW w W) (hb : Below W.heap.size W W') : LW w W' :=
  ⟨h.b.trans (hb.mono h.b.size), h.g.below hb, Nat.le_trans h.n hb.size⟩
theorem LW.alloc {w W : World} (h : LW w W) (o : Obj) : LW w (W.alloc o) := h.go (grown_below (World.grownBy_alloc _ _ _))
theorem LW.drewN {w W : World} (h : LW w W) (n : Nat) : LW w (W.drewN n) := h.go (Below.drewN (Below.refl _ _) n)

theorem lwTok {w W : World} (h : LW w W) (k a n : Int) (s : ByteArray) : Calls Tryz.prog 15 #[.int .i64 k, .int .i64 a, .int .i64 n, .string s] W fun e W' => e = .returned (.agg #[.int .i64 a, .int .i64 k, .string s, .int .i64 n]) ∧ LW w W' :=
  (lawToken k a n s W).mono fun e W' h' => ⟨h'.1, h.go (grown_below h'.2)⟩
theorem lwTokens {w W : World} (h : LW w W) (s : ByteArray) (hs : s.size ≤ 140737488351232) : Calls Tryz.prog 16 #[.string s] W fun e W' => LW w W' ∧ Below W.heap.size W W' ∧ TokIs W (Lx.toks s.data.toList) e W' :=
  (lexTokens s W h.g.gs h.n hs).mono fun e W' h' => ⟨h.go (grown_below h'.1), grown_below h'.1, h'⟩
theorem lwSame {w W : World} (h : LW w W) {ts us : List Lx.Tok} {v u : Value} (hv : ToksIn W v ts) (hu : ToksIn W u us) (hl : ts.length ≤ 1000000000) (hl2 : us.length ≤ 1000000000) :
    Calls Tryz.prog 25 #[v, u] W fun e W' => e = .returned (.bool (decide (ts = us))) ∧ LW w W' :=
  (lawSameTok ts us v u W hv hu hl hl2).mono fun e W' h' => ⟨h'.1, h.go h'.2⟩

def saysB (s : Lx.Bytes) (ts : List Lx.Tok) : Bool := match Lx.toks s with | (l, none) => decide (l = ts) | _ => false

set_option maxHeartbeats 4000000 in
theorem lawSays (s : ByteArray) (ts : List Lx.Tok) (v : Value) (w : World) (hG : GL w) (hN : NG ≤ w.heap.size) (hs : s.size ≤ 140737488351232) (hv : ToksIn w v ts) (hl : ts.length ≤ 1000000000) :
    Calls Tryz.prog 14 #[.string s, v] w fun e w' => e = .returned (.bool (saysB s.data.toList ts)) ∧ LW w w' := by
  have hT := lwTokens (LW.refl hG hN) s hs
  have hcl := toks_length s.data.toList
  obtain ⟨⟨l, o⟩, hr⟩ : ∃ r, Lx.toks s.data.toList = r := ⟨_, rfl⟩
  rw [hr] at hT hcl
  have hB : saysB s.data.toList ts = (match (l, o) with | (l, none) => decide (l = ts) | _ => false) := by unfold saysB; rw [hr]
  clear hr hG hN
  cases o with
  | some yx =>
    obtain ⟨y, x⟩ := yx
    have HB := Lib.hid hB
    clear hB
    go_enter Tryz.func14, Tryz.ntmps14
    go_wp2_with (go_at_call 16; refine hT.mono ?_; clear hT; rintro e W1 ⟨h1, -, -, g, rfl, hR, -⟩)
    go_ret
    rw [HB.out]
    exact ⟨rfl, h1⟩
  | none =>
    have HB := Lib.hid (show saysB s.data.toList ts = decide (l = ts) from hB)
    clear hB
    go_enter Tryz.func14, Tryz.ntmps14
    go_wp2_with (first
      | (go_at_call 16; refine hT.mono ?_; clear hT; rintro e W1 ⟨h1, hb1, -, u, rfl, hrow⟩; have hu := row_toks (w' := W1) hrow; have hv1 := hv.below hb1)
      | (go_at_call 25; refine (lwSame h1 hu hv1 (by simpa using Nat.le_trans hcl (by decide)) hl).mono ?_; rintro e W2 ⟨rfl, h2⟩))
    go_ret
    rw [HB.out]
    exact ⟨rfl, h2⟩

end Go.Proofs.YtbhdkkkaeabkhaaGreatDoor
