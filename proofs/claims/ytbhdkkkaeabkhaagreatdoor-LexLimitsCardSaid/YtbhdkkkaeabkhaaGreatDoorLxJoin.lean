/-
  The walk of Join.
-/
import Derived.Test.YtbhdkkkaeabkhaaGreatDoorLxWritten
namespace Go.Proofs.YtbhdkkkaeabkhaaGreatDoor
open Go.RowKit Go.Shelf
set_option linter.unusedSimpArgs false
set_option linter.unusedVariables false

namespace Lx
def joinStep (i : Nat) (b s : Bytes) : Bytes := if 65536 < b.length then b else (if 0 < i then b ++ [32] else b) ++ s
def joinFrom : Nat → Bytes → List Tok → Option Bytes
  | _, b, [] => some b
  | i, b, t :: l => if (written t).2 then joinFrom (i + 1) (joinStep i b (written t).1) l else none
def join (l : List Tok) : Bytes × Nat :=
  match joinFrom 0 [] l with
  | none => ([], 1)
  | some b => if 65536 < b.length then ([], 2) else if 4096 < l.length then ([], 3) else (b, 0)
theorem written_len (t : Tok) (hs : t.s.length ≤ 1000000000) (hn1 : t.n ≤ 9223372036854775807) : (written t).1.length ≤ 3000000000 := by
  have h : ∀ s, raw t = some s → s.length ≤ 3000000000 := by
    intro s h
    unfold raw at h
    split at h
    · injection h with h; subst h; omega
    · split at h
      · split at h
        · cases h
        · injection h with h; subst h
          rw [Lib.decDigits_length]
          have := nD_le 19 t.n.toNat (by omega)
          omega
      · split at h
        · injection h with h; subst h
          have := quoteIn_len t.s
          simp [quote]
          omega
        · cases h
  unfold written
  split
  · simp
  · simp
  · rename_i c l he
    split
    · exact h _ he
    · simp
end Lx

/-- A row of tokens, read from its block's head. -/
def ToksIn (w : World) (v : Value) (ts : List Lx.Tok) : Prop :=
  (ts = [] ∧ ∃ a c, v = .slice a 0 c) ∨ ∃ g c cur fr, v = .slice (some ⟨g, 0, none⟩) ts.length c ∧ w.heap[g]? = some (.cells cur 26 fr) ∧ cur.toList.take (ts.length * 4) = ts.flatMap cellsT
theorem flat_at (ts : List Lx.Tok) : ∀ (m : Nat) (h : m < ts.length) (q : Nat), q < 4 → (ts.flatMap cellsT)[m * 4 + q]? = (cellsT (ts[m]'h))[q]? := by
  induction ts with
  | nil => intro m h; simp at h
  | cons t ts ih =>
    intro m h q hq
    rw [List.flatMap_cons]
    cases m with
    | zero => rw [List.getElem?_append_left (by simp [cellsT]; omega)]; simp
    | succ m =>
      rw [List.getElem?_append_right (by simp [cellsT]; omega)]
      have e : (m + 1) * 4 + q - (cellsT t).length = m * 4 + q := by simp [cellsT]; omega
      rw [e, ih m (by simpa using h) q hq]
      rfl
theorem toks_at {w : World} {ts : List Lx.Tok} {g m : Nat} {cur : Array Value} {fr : Nat × Nat} (hg : w.heap[g]? = some (.cells cur 26 fr)) (hc : cur.toList.take (ts.length * 4) = ts.flatMap cellsT) (h : m < ts.length) :
    w.cell? ⟨g, m * 4, none⟩ = some (.int .i64 (ts[m]'h).pos) ∧ w.cell? ⟨g, m * 4 + 1, none⟩ = some (.int .i64 (ts[m]'h).kind) ∧ w.cell? ⟨g, m * 4 + 2, none⟩ = some (.string ⟨(ts[m]'h).s.toArray⟩) ∧ w.cell? ⟨g, m * 4 + 3, none⟩ = some (.int .i64 (ts[m]'h).n) := by
  have e : ∀ q, q < 4 → w.cell? ⟨g, m * 4 + q, none⟩ = (cellsT (ts[m]'h))[q]? := by
    intro q hq
    rw [cell_of hg, ← Array.getElem?_toList, ← flat_at ts m h q hq, ← hc, List.getElem?_take_of_lt (by omega)]
  exact ⟨e 0 (by omega), e 1 (by omega), e 2 (by omega), e 3 (by omega)⟩
theorem Bld.kept {B b : Nat} {l : List UInt8} {w w' : World} (h : Bld B b l w) (hg : w.grownBy w' none) : Bld B b l w' := by
  have e : ∀ p, Lib.BuilderAt 86 5 B b p (Lib.byteCells l) w → Lib.BuilderAt 86 5 B b p (Lib.byteCells l) w' := by
    rintro p ⟨hB, v, hb, ho, hne⟩
    exact ⟨hB, v, (hg.block b (lt_of_block hb) (fun e => nomatch e)).trans hb, ho.kept hg (by cases v.ownBlock <;> simp), hne⟩
  exact h.imp (e _) (e _)

theorem bldLen (B b : Nat) (l : List UInt8) (w : World) (h : Bld B b l w) : Calls Tryz.prog 45 #[.pointer (some ⟨b, 0, none⟩)] w fun e w' => e = .returned (.int .i64 l.length) ∧ w' = w := by
  refine (Tryz.Builder_Len B b _ w h).mono ?_
  rintro e w' ⟨rfl, rfl⟩
  exact ⟨by rw [byteCells_length], rfl⟩

set_option maxHeartbeats 4000000 in
set_option maxRecDepth 100000 in
theorem lexJoin (ts : List Lx.Tok) (v : Value) (w : World) (hG : GS w) (hN : NG ≤ w.heap.size) (hv : ToksIn w v ts) (hl : ts.length ≤ 1000000000)
    (hts : ∀ t ∈ ts, t.s.length ≤ 1000000000 ∧ -9223372036854775808 ≤ t.n ∧ t.n ≤ 9223372036854775807) :
    Calls Tryz.prog 18 #[v] w fun e w' => e = .returned (.tuple #[.string ⟨(Lx.join ts).1.toArray⟩, .int .i64 (Lx.join ts).2]) ∧ Below w.heap.size w w' := by
  obtain ⟨a0, cp, rfl⟩ : ∃ a0 c, v = .slice a0 ts.length c := by
    rcases hv with ⟨rfl, a, c, rfl⟩ | ⟨g, c, cur, fr, rfl, _⟩
    · exact ⟨a, c, rfl⟩
    · exact ⟨_, c, rfl⟩
  have HV := Lib.hid hv
  clear hv
  go_enter Tryz.func18, Tryz.ntmps18
  have h0 : Bld w.heap.size w.heap.size [] (w.alloc (.cells #[.pointer none, .slice none 0 0] 86)) := Lib.fresh_isBuilder _ _ _
  have hb0 : Below w.heap.size w (w.alloc (.cells #[.pointer none, .slice none 0 0] 86)) := (Below.refl _ w).alloc (Nat.le_refl _) _
  have HJ : Hid (Lx.join ts = match Lx.joinFrom 0 [] ts with | none => ([], 1) | some b => if 65536 < b.length then ([], 2) else if 4096 < ts.length then ([], 3) else (b, 0)) := rfl
  go_wp2
  have H0 := Lib.hid h0
  have HB0 := Lib.hid hb0
  clear h0 hb0
  go_loopg [11] (ts.length) (fun n v wr => ∃ (m : Nat) (b : List UInt8), n = ts.length - m ∧ v = .int .i64 (m : Int) ∧ m ≤ ts.length ∧ Bld w.heap.size w.heap.size b wr ∧ Below w.heap.size w wr ∧ b.length ≤ 3000100000 ∧ Lx.joinFrom m b (ts.drop m) = Lx.joinFrom 0 [] ts)
  case atStart => exact ⟨0, [], rfl, rfl, Nat.zero_le _, H0.out, HB0.out, by simp, rfl⟩
  case round =>
    obtain ⟨m, b, hn, rfl, hm, hB, hb, hbl, he⟩ := hrel
    have HN := Lib.hid hn
    have HE := Lib.hid he
    clear hn he H0 HB0
    by_cases hlt : m < ts.length
    · have hi : (m : Int) < (ts.length : Int) := by omega
      have hi0 : (0 : Int) ≤ (m : Int) := by omega
      have hmi : (m : Int) ≤ 1000000000 := by omega
      obtain ⟨g, cur, fr, rfl, hgb, hcur⟩ : ∃ g cur fr, a0 = some ⟨g, 0, none⟩ ∧ w.heap[g]? = some (.cells cur 26 fr) ∧ cur.toList.take (ts.length * 4) = ts.flatMap cellsT := by
        rcases HV.out with ⟨h, _⟩ | ⟨g, c, cur, fr, h, h1, h2⟩
        · rw [h] at hlt; simp at hlt
        · injection h with h _ _; exact ⟨g, cur, fr, h, h1, h2⟩
      have hgl := lt_of_block hgb
      have hgb' := (hb.block g hgl).trans hgb
      obtain ⟨t0, t1, t2, t3⟩ := toks_at hgb' hcur hlt
      have hgl' := lt_of_block hgb'
      obtain ⟨t, ht⟩ : ∃ t, ts[m]'hlt = t := ⟨_, rfl⟩
      rw [ht] at t0 t1 t2 t3
      obtain ⟨ht1, ht2, ht3⟩ := hts t (by rw [← ht]; exact List.getElem_mem hlt)
      have HTM := Lib.hid (show ts.drop m = t :: ts.drop (m + 1) by rw [List.drop_eq_getElem_cons hlt, ht])
      clear ht hgb hgb'
      have hwr : Calls Tryz.prog 44 #[.agg #[.int .i64 t.pos, .int .i64 t.kind, .string ⟨t.s.toArray⟩, .int .i64 t.n]] (wr.alloc (.cells #[.int .i64 t.pos, .int .i64 t.kind, .string ⟨t.s.toArray⟩, .int .i64 t.n] 26)) fun e w' =>
          e = .returned (.tuple #[.string ⟨(Lx.written t).1.toArray⟩, .bool (Lx.written t).2]) ∧ (wr.alloc (.cells #[.int .i64 t.pos, .int .i64 t.kind, .string ⟨t.s.toArray⟩, .int .i64 t.n] 26)).grownBy w' none ∧ Below w.heap.size w w' ∧ Bld w.heap.size w.heap.size b w' :=
        (lexWritten t _ ((hG.below hb).alloc _) (by have := hb.size; simp; omega) ht1 ht2 ht3).mono fun e w' h => ⟨h.1, h.2, grown_below (((below_grown hb).trans (World.grownBy_alloc _ _ _)).trans h.2), (hB.kept (World.grownBy_alloc _ _ _)).kept h.2⟩
      have hwl := Lx.written_len t ht1 ht3
      obtain ⟨x, hx⟩ : ∃ x, (Lx.written t).1 = x := ⟨_, rfl⟩
      rw [hx] at hwr hwl
      have HXX := Lib.hid hx
      clear hx
      have hjf : Lx.joinFrom m b (ts.drop m) = if (Lx.written t).2 then Lx.joinFrom (m + 1) (Lx.joinStep m b x) (ts.drop (m + 1)) else none := by
        rw [HTM.out]; show (if (Lx.written t).2 then Lx.joinFrom (m + 1) (Lx.joinStep m b (Lx.written t).1) (ts.drop (m + 1)) else none) = _
        rw [HXX.out]
      have HJF := Lib.hid (HE.out.symm.trans hjf)
      clear hjf
      cases hok : (Lx.written t).2 with
      | false =>
        have HR := Lib.hid (show Lx.join ts = ([], 1) by rw [HJ.out, HJF.out, hok]; rfl)
        rw [hok] at hwr
        clear hok
        go_wp2_with (go_at_call 44; refine hwr.mono ?_; clear hwr; rintro e w5 ⟨rfl, hg5, hb5, hB5⟩; have hs5 := hb5.size)
        refine bodyPost_ret (results_tmp2 rfl _ _ _) rfl ?_
        rw [HR.out]
        exact ⟨rfl, hb5⟩
      | true =>
        have HR := Lib.hid (show Lx.joinFrom (m + 1) (Lx.joinStep m b x) (ts.drop (m + 1)) = Lx.joinFrom 0 [] ts by rw [HJF.out, hok]; rfl)
        rw [hok] at hwr
        clear hok
        by_cases hbig : 65536 < b.length
        · have hbi : (65536 : Int) < (b.length : Int) := by omega
          have hst : Lx.joinStep m b x = b := by unfold Lx.joinStep; rw [if_pos hbig]
          rw [hst] at HR
          clear hst
          go_wp2_with (first | (go_at_call 44; refine hwr.mono ?_; clear hwr; rintro e w5 ⟨rfl, hg5, hb5, hB5⟩; have hs5 := hb5.size) | (go_at_call 45; refine (bldLen _ _ _ _ hB5).mono ?_; rintro e w' ⟨rfl, rfl⟩))
          go_roundg (ts.length - (m + 1))
          case measure => have := HN.out; omega
          case rel => exact ⟨m + 1, b, rfl, by simp, hlt, hB5, hb5, hbl, HR.out⟩
        · have hbi : ¬ (65536 : Int) < (b.length : Int) := by omega
          by_cases hm0 : 0 < m
          · have hm0i : (0 : Int) < (m : Int) := by omega
            have hst : Lx.joinStep m b x = b ++ [32] ++ x := by unfold Lx.joinStep; rw [if_neg hbig, if_pos hm0]
            rw [hst] at HR
            clear hst
            go_wp2_with (first | (go_at_call 44; refine hwr.mono ?_; clear hwr; rintro e w5 ⟨rfl, hg5, hb5, hB5⟩; have hs5 := hb5.size) | (go_at_call 45; refine (bldLen _ _ _ _ hB5).mono ?_; rintro e w' ⟨rfl, rfl⟩) | (go_at_call 46; refine (bldByte w.heap.size w.heap.size b 32 _ hB5 (by omega) hs5).mono ?_; rintro e w6 ⟨rfl, h6, hb6⟩) | (go_at_call 47; refine (bldStr w.heap.size w.heap.size (b ++ [32]) ⟨x.toArray⟩ _ h6 (by show (b ++ [32]).length + x.length ≤ _; simp; omega) (by have := hb6.size; omega)).mono ?_; rintro e w7 ⟨rfl, h7, hb7⟩))
            go_roundg (ts.length - (m + 1))
            case measure => have := HN.out; omega
            case rel => exact ⟨m + 1, _, rfl, by simp, hlt, h7, (hb5.trans hb6).trans hb7, by show (b ++ [32] ++ x).length ≤ _; simp; omega, HR.out⟩
          · have hm0i : ¬ (0 : Int) < (m : Int) := by omega
            have hst : Lx.joinStep m b x = b ++ x := by unfold Lx.joinStep; rw [if_neg hbig, if_neg hm0]
            rw [hst] at HR
            clear hst
            go_wp2_with (first | (go_at_call 44; refine hwr.mono ?_; clear hwr; rintro e w5 ⟨rfl, hg5, hb5, hB5⟩; have hs5 := hb5.size) | (go_at_call 45; refine (bldLen _ _ _ _ hB5).mono ?_; rintro e w' ⟨rfl, rfl⟩) | (go_at_call 47; refine (bldStr w.heap.size w.heap.size b ⟨x.toArray⟩ _ hB5 (by show b.length + x.length ≤ _; omega) hs5).mono ?_; rintro e w7 ⟨rfl, h7, hb7⟩))
            go_roundg (ts.length - (m + 1))
            case measure => have := HN.out; omega
            case rel => exact ⟨m + 1, _, rfl, by simp, hlt, h7, hb5.trans hb7, by show (b ++ x).length ≤ _; simp; omega, HR.out⟩
    · have hme : m = ts.length := by omega
      have hi : ¬ (m : Int) < (ts.length : Int) := by omega
      have hjf : Lx.joinFrom 0 [] ts = some b := by
        rw [← HE.out, List.drop_eq_nil_of_le (by omega)]; rfl
      have HR := Lib.hid (show Lx.join ts = if 65536 < b.length then ([], 2) else if 4096 < ts.length then ([], 3) else (b, 0) by rw [HJ.out, hjf])
      clear hjf hme
      have hB5 := hB
      by_cases hbig : 65536 < b.length
      · have hbi : (65536 : Int) < (b.length : Int) := by omega
        have HR2 := Lib.hid (show Lx.join ts = ([], 2) by rw [HR.out, if_pos hbig])
        go_wp2_with (first | (go_at_call 45; refine (bldLen _ _ _ _ hB5).mono ?_; rintro e w' ⟨rfl, rfl⟩))
        refine bodyPost_ret (results_tmp2 rfl _ _ _) rfl ?_
        rw [HR2.out]
        exact ⟨rfl, hb⟩
      · have hbi : ¬ (65536 : Int) < (b.length : Int) := by omega
        by_cases hmany : 4096 < ts.length
        · have hmi : (4096 : Int) < (ts.length : Int) := by omega
          have HR2 := Lib.hid (show Lx.join ts = ([], 3) by rw [HR.out, if_neg hbig, if_pos hmany])
          go_wp2_with (first | (go_at_call 45; refine (bldLen _ _ _ _ hB5).mono ?_; rintro e w' ⟨rfl, rfl⟩))
          refine bodyPost_ret (results_tmp2 rfl _ _ _) rfl ?_
          rw [HR2.out]
          exact ⟨rfl, hb⟩
        · have hmi : ¬ (4096 : Int) < (ts.length : Int) := by omega
          have HR2 := Lib.hid (show Lx.join ts = (b, 0) by rw [HR.out, if_neg hbig, if_neg hmany])
          go_wp2_with (first | (go_at_call 45; refine (bldLen _ _ _ _ hB5).mono ?_; rintro e w' ⟨rfl, rfl⟩) | (go_at_call 48; refine (Tryz.Builder_String_any w.heap.size w.heap.size _ _ hB5 hb.size).mono ?_; rintro e w4 ⟨rfl, hb4⟩))
          refine bodyPost_ret (results_tmp2 rfl _ _ _) rfl ?_
          rw [HR2.out]
          exact ⟨rfl, hb.trans hb4⟩

end Go.Proofs.YtbhdkkkaeabkhaaGreatDoor
