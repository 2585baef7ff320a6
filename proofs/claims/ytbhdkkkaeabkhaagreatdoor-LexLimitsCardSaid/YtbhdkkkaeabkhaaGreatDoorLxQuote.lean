/-
  The walk of Quote.
-/
import Derived.Test.YtbhdkkkaeabkhaaGreatDoorLxBuild
import Derived.Test.YtbhdkkkaeabkhaaGreatDoorLxCut
namespace Go.Proofs.YtbhdkkkaeabkhaaGreatDoor
open Go.RowKit Go.Shelf
set_option linter.unusedSimpArgs false
set_option linter.unusedVariables false

namespace Lx
def esc (c : UInt8) : Bytes := if c.toNat == 10 then [92, 110] else if c.toNat == 34 || c.toNat == 92 then [92, c] else [c]
theorem quoteIn_cons (c : UInt8) (t : Bytes) : quoteIn (c :: t) = esc c ++ quoteIn t := rfl
theorem quoteIn_append : ∀ (l k : Bytes), quoteIn (l ++ k) = quoteIn l ++ quoteIn k
  | [], k => rfl
  | c :: t, k => by rw [List.cons_append, quoteIn_cons, quoteIn_cons, quoteIn_append t k, List.append_assoc]
theorem esc_len (c : UInt8) : (esc c).length ≤ 2 := by
  unfold esc
  split
  · simp
  · split <;> simp
theorem quoteIn_len : ∀ (l : Bytes), (quoteIn l).length ≤ 2 * l.length
  | [] => by simp [quoteIn]
  | c :: t => by
    rw [quoteIn_cons, List.length_append]
    have := esc_len c
    have := quoteIn_len t
    simp
    omega
end Lx

theorem take_one (s : ByteArray) (m : Nat) (h : m < s.size) : s.data.toList.take (m + 1) = s.data.toList.take m ++ [s[m]] := by
  have := take_grow s 0 m (Nat.zero_le _) h
  simpa using this

set_option maxHeartbeats 4000000 in
set_option maxRecDepth 100000 in
theorem lexQuote (s : ByteArray) (w : World) (hs : s.size ≤ 70368744177600) :
    Calls Tryz.prog 68 #[.string s] w fun e w' => e = .returned (.string ⟨(Lx.quote s.data.toList).toArray⟩) ∧ Below w.heap.size w w' := by
  go_enter Tryz.func68, Tryz.ntmps68
  have h0 : Bld w.heap.size w.heap.size [] (w.alloc (.cells #[.pointer none, .slice none 0 0] 86)) := Lib.fresh_isBuilder _ _ _
  have hb0 : Below w.heap.size w (w.alloc (.cells #[.pointer none, .slice none 0 0] 86)) := (Below.refl _ w).alloc (Nat.le_refl _) _
  go_wp2_with (go_at_call 46; refine (bldByte w.heap.size w.heap.size [] 34 _ h0 (by decide) hb0.size).mono ?_; rintro e w1 ⟨rfl, h1, hb1'⟩; have hb1 := hb0.trans hb1'; clear hb1')
  have H1 := Lib.hid h1
  have HB1 := Lib.hid hb1
  clear h1 hb1 h0 hb0
  go_loopg [8] (s.size) (fun n v wr => ∃ m : Nat, n = s.size - m ∧ v = .int .i64 (m : Int) ∧ m ≤ s.size ∧ Bld w.heap.size w.heap.size (34 :: Lx.quoteIn (s.data.toList.take m)) wr ∧ Below w.heap.size w wr)
  case atStart => exact ⟨0, rfl, rfl, Nat.zero_le _, H1.out, HB1.out⟩
  case round =>
    obtain ⟨m, hn, rfl, hm, hB, hb⟩ := hrel
    have HN := Lib.hid hn
    clear hn H1 HB1
    by_cases hlt : m < s.size
    · have hi : (m : Int) < (s.size : Int) := by omega
      have hi0 : (0 : Int) ≤ (m : Int) := by omega
      have hmi : (m : Int) ≤ 70368744177600 := by omega
      obtain ⟨c, hc⟩ : ∃ c, c = s[m]'hlt := ⟨_, rfl⟩
      obtain ⟨l, hl⟩ : ∃ l, 34 :: Lx.quoteIn (s.data.toList.take m) = l := ⟨_, rfl⟩
      have hll : l.length ≤ 2 * s.size + 1 := by
        rw [← hl]
        have := Lx.quoteIn_len (s.data.toList.take m)
        simp only [List.length_cons, List.length_take, len_size] at this ⊢
        omega
      have HT := Lib.hid (take_one s m hlt)
      have HL := Lib.hid hl
      have HC := Lib.hid hc
      rw [hl] at hB
      clear hl hc
      have hsz := hb.size
      have hfin : ∀ w', Bld w.heap.size w.heap.size (l ++ Lx.esc (s[m]'hlt)) w' → Bld w.heap.size w.heap.size (34 :: Lx.quoteIn (s.data.toList.take (m + 1))) w' := by
        intro w' h
        rw [HT.out, Lx.quoteIn_append, ← List.cons_append, HL.out]
        have e : Lx.quoteIn [s[m]'hlt] = Lx.esc (s[m]'hlt) := by rw [Lx.quoteIn_cons]; simp [Lx.quoteIn]
        rw [e]
        exact h
      by_cases h10 : (s[m]'hlt).toNat = 10
      · have B10 : (((s[m]'hlt).toNat : Int) == 10) = true := by simp; omega
        have he : Lx.esc (s[m]'hlt) = [92, 110] := by simp [Lx.esc, h10]
        rw [he] at hfin
        clear h10 he
        go_wp2_with (go_at_call 47; refine (bldStr w.heap.size w.heap.size l ⟨#[92, 110]⟩ _ hB (by show l.length + 2 ≤ _; omega) hsz).mono ?_; rintro e w2 ⟨rfl, h2, hb2'⟩; have hb2 := hb.trans hb2'; clear hb2')
        go_roundg (s.size - (m + 1))
        case measure => have := HN.out; omega
        case rel => exact ⟨m + 1, rfl, by simp, hlt, hfin _ h2, hb2⟩
      · have B10 : (((s[m]'hlt).toNat : Int) == 10) = false := by simp; omega
        by_cases hq : (s[m]'hlt).toNat = 34 ∨ (s[m]'hlt).toNat = 92
        · have he : Lx.esc (s[m]'hlt) = [92, s[m]'hlt] := by simp [Lx.esc, h10, hq]
          rw [he] at hfin
          have hstep : ∀ (w2 : World), Bld w.heap.size w.heap.size (l ++ [92]) w2 → Below w.heap.size w w2 → Calls Tryz.prog 46 #[.pointer (some ⟨w.heap.size, 0, none⟩), .int .u8 ((s[m]'hlt).toNat : Int)] w2 fun e w' => e = .returned .nilIface ∧ Bld w.heap.size w.heap.size (l ++ [92, s[m]'hlt]) w' ∧ Below w.heap.size w w' := fun w2 h2 hb2 =>
            (bldByte w.heap.size w.heap.size (l ++ [92]) (s[m]'hlt) w2 h2 (by simp; omega) hb2.size).mono fun e w' h => ⟨h.1, by simpa using h.2.1, hb2.trans h.2.2⟩
          have hstep1 : Calls Tryz.prog 46 #[.pointer (some ⟨w.heap.size, 0, none⟩), .int .u8 92] wr fun e w' => e = .returned .nilIface ∧ Bld w.heap.size w.heap.size (l ++ [92]) w' ∧ Below w.heap.size w w' :=
            (bldByte w.heap.size w.heap.size l 92 wr hB (by omega) hsz).mono fun e w' h => ⟨h.1, h.2.1, hb.trans h.2.2⟩
          by_cases h34 : (s[m]'hlt).toNat = 34
          · have B34 : (((s[m]'hlt).toNat : Int) == 34) = true := by simp; omega
            clear h10 hq h34 he
            go_wp2_with (first | (go_at_call 46; refine hstep1.mono ?_; clear hstep1; rintro e w2 ⟨rfl, h2, hb2⟩) | (go_at_call 46; refine (hstep w2 h2 hb2).mono ?_; clear hstep; rintro e w3 ⟨rfl, h3, hb3⟩))
            go_roundg (s.size - (m + 1))
            case measure => have := HN.out; omega
            case rel => exact ⟨m + 1, rfl, by simp, hlt, hfin _ h3, hb3⟩
          · have B34 : (((s[m]'hlt).toNat : Int) == 34) = false := by simp; omega
            have B92 : (((s[m]'hlt).toNat : Int) == 92) = true := by simp; omega
            clear h10 hq h34 he
            go_wp2_with (first | (go_at_call 46; refine hstep1.mono ?_; clear hstep1; rintro e w2 ⟨rfl, h2, hb2⟩) | (go_at_call 46; refine (hstep w2 h2 hb2).mono ?_; clear hstep; rintro e w3 ⟨rfl, h3, hb3⟩))
            go_roundg (s.size - (m + 1))
            case measure => have := HN.out; omega
            case rel => exact ⟨m + 1, rfl, by simp, hlt, hfin _ h3, hb3⟩
        · have B34 : (((s[m]'hlt).toNat : Int) == 34) = false := by simp; omega
          have B92 : (((s[m]'hlt).toNat : Int) == 92) = false := by simp; omega
          have he : Lx.esc (s[m]'hlt) = [s[m]'hlt] := by simp [Lx.esc, h10, hq]
          rw [he] at hfin
          have hstep : Calls Tryz.prog 46 #[.pointer (some ⟨w.heap.size, 0, none⟩), .int .u8 ((s[m]'hlt).toNat : Int)] wr fun e w' => e = .returned .nilIface ∧ Bld w.heap.size w.heap.size (l ++ [s[m]'hlt]) w' ∧ Below w.heap.size w w' :=
            (bldByte w.heap.size w.heap.size l (s[m]'hlt) wr hB (by omega) hsz).mono fun e w' h => ⟨h.1, h.2.1, hb.trans h.2.2⟩
          clear h10 hq he
          go_wp2_with (go_at_call 46; refine hstep.mono ?_; clear hstep; rintro e w3 ⟨rfl, h3, hb3⟩)
          go_roundg (s.size - (m + 1))
          case measure => have := HN.out; omega
          case rel => exact ⟨m + 1, rfl, by simp, hlt, hfin _ h3, hb3⟩
    · have hme : m = s.size := by omega
      have hi : ¬ (m : Int) < (s.size : Int) := by omega
      have hq : 34 :: Lx.quoteIn (s.data.toList.take m) ++ [34] = Lx.quote s.data.toList := by
        rw [hme, List.take_of_length_le (by rw [len_size]; exact Nat.le_refl _)]; rfl
      have hl2 := Lx.quoteIn_len (s.data.toList.take m)
      rw [List.length_take, len_size] at hl2
      have hstep : Calls Tryz.prog 46 #[.pointer (some ⟨w.heap.size, 0, none⟩), .int .u8 34] wr fun e w' => e = .returned .nilIface ∧ Bld w.heap.size w.heap.size (Lx.quote s.data.toList) w' ∧ Below w.heap.size w w' :=
        (bldByte w.heap.size w.heap.size _ 34 wr hB (by simp; omega) hb.size).mono fun e w' h => ⟨h.1, by rw [← hq]; exact h.2.1, hb.trans h.2.2⟩
      clear hq hme hB
      go_wp2_with (first | (go_at_call 46; refine hstep.mono ?_; clear hstep; rintro e w3 ⟨rfl, h3, hb3⟩) | (go_at_call 48; refine (Tryz.Builder_String_any w.heap.size w.heap.size _ _ h3 hb3.size).mono ?_; rintro e w4 ⟨rfl, hb4⟩))
      go_ret
      exact ⟨rfl, hb3.trans hb4⟩

end Go.Proofs.YtbhdkkkaeabkhaaGreatDoor
