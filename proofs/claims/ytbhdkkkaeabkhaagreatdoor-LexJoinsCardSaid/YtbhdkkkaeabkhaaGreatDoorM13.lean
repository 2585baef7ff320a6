/-
  The end of every law of this chapter: true, and the arguments as they were.
  The walk of Join.
  What a law's arguments are, out of the row's condition.
  Plain laws: what text a token has, and that a cut looks no further than its token. No program in sight.
  coilref1's functions of one byte.
  coilref1.skip.
  coilbook.Same at tokens and at texts.
  coilbook.Same at texts; the two lists of words.
  coilref1: wrong, Word, Signs, begins.
-/
import Derived.Test.YtbhdkkkaeabkhaaGreatDoorM12
import Derived.Test.YtbhdkkkaeabkhaaGreatDoorM9
import Derived.ChangeMaps5
import Derived.ChangeSame
import Derived.OpenShut
import Derived.ProofKit
import Derived.Test.YtbhdkkkaeabkhaaGreatDoorM1
import Derived.Test.YtbhdkkkaeabkhaaGreatDoorM6
namespace Go.Proofs.YtbhdkkkaeabkhaaGreatDoor
open Go Go.ChangeShapes Go.WideShapes Go.ChangeAt Go.RowKit
set_option linter.unusedSimpArgs false
set_option linter.unusedVariables false

set_option maxRecDepth 100000 in
theorem laidOutK : laidOutB Tryz.prog = true := by kernel_rfl

theorem trodAll_below {H : Type} {enc : TypeId × Value → H} {P : Program} (hl : laidOutB P = true) {W W' : World} (hb : Below W.heap.size W W') : ∀ {ts : List TypeId} {vs : List Value} {ds : List (DataW H)} {p : List MemPlace},
    (ts.all fun t => P.readableRec t && decide (t < P.types.size)) = true → DataW.TrodAll enc P W 0 (fun _ => true) true ts vs ds p → (∀ x ∈ p, x.block < W.heap.size) →
    DataW.TrodAll enc P W' 0 (fun b => decide (b < W.heap.size)) true ts vs ds p := by
  intro ts
  induction ts with
  | nil =>
    intro vs ds p _ h _
    obtain ⟨rfl, rfl, rfl⟩ := trodAll_nil h
    exact trodAll_mk0
  | cons t ts ih =>
    intro vs ds p ht h hlt
    obtain ⟨v, vs', d, ds', p1, p2, rfl, rfl, rfl, h1, h2⟩ := trodAll_cons h
    rw [List.all_cons, Bool.and_eq_true, Bool.and_eq_true] at ht
    exact ⟨p1, p2, Below.trod hl ht.1.1 (of_decide_eq_true ht.1.2) h1 hb (fun x hx => hlt x (by simp [hx])), ih ht.2 h2 (fun x hx => hlt x (by simp [hx])), rfl⟩

/-- The law's end: true, and each argument reads as it did. -/
theorem finish {H : Type} {enc : TypeId × Value → H} {f : Func} {s : ChangeSpec} {W W' : World} {args : Array Value} {ds : List (DataW H)} {before : List MemPlace}
    (hv : s.vars = []) (hr : f.resultTypes = #[4]) (hps : (f.params.toList.all fun t => Tryz.prog.readableRec t && decide (t < Tryz.prog.types.size)) = true)
    (hfn : s.fn H ds = { results := [.lit (.bool true)], args := ds })
    (hW : DataW.Whole enc Tryz.prog f.params.toList s.vars false W args.toList ds [] before) (hb : Below W.heap.size W W') :
    s.post enc Tryz.prog f false true false false W args (.bool true) W' := by
  have hW' := hW
  obtain ⟨p, q, hA, hV, rfl, hz, hn⟩ := hW
  rw [hv] at hV
  obtain rfl : q = [] := hV
  have hlt : ∀ x ∈ p, x.block < W.heap.size := fun x hx => by simpa using hW'.lt x (by simpa using hx)
  have e : s.fn H (ds ++ []) = { results := [.lit (.bool true)], args := ds } := by rw [List.append_nil]; exact hfn
  refine ⟨ds, [], _, [], p, [], hW', ?_, ?_, ?_, hb.frame _, fun h => by cases h⟩
  · rw [e, hr]; exact trodAll_mk1 (shut_bool Tryz.underlying4 true)
  · rw [e]; exact trodAll_below laidOutK hb hps hA hlt
  · rw [e, hv]; rfl

end Go.Proofs.YtbhdkkkaeabkhaaGreatDoor

namespace Go.Proofs.YtbhdkkkaeabkhaaGreatDoor
open Go.RowKit Go.Shelf
set_option linter.unusedSimpArgs false
set_option linter.unusedVariables false

namespace Lx
def joinStep (i : Nat) (b s : Bytes) : Bytes := if 65536 < b.length then b else (if 0 < i then b ++ [32] else b) ++ s
def joinFrom : Nat → Bytes → List Tok → Option Bytes
  | _, b, [] => some b
  | i, b, t :: l => if (written t).2 then joinFrom (i + 1) (joinStep i b (written t).1) l else none
def join (l : List Tok) : Bytes × Nat :=
  match joinFrom 0 [] l with
  | none => ([], 1)
  | some b => if 65536 < b.length then ([], 2) else if 4096 < l.length then ([], 3) else (b, 0)
theorem written_len (t : Tok) (hs : t.s.length ≤ 1000000000) (hn1 : t.n ≤ 9223372036854775807) : (written t).1.length ≤ 3000000000 := by
  have h : ∀ s, raw t = some s → s.length ≤ 3000000000 := by
    intro s h
    unfold raw at h
    split at h
    · injection h with h; subst h; omega
    · split at h
      · split at h
        · cases h
        · injection h with h; subst h
          rw [Lib.decDigits_length]
          have := nD_le 19 t.n.toNat (by omega)
          omega
      · split at h
        · injection h with h; subst h
          have := quoteIn_len t.s
          simp [quote]
          omega
        · cases h
  unfold written
  split
  · simp
  · simp
  · rename_i c l he
    split
    · exact h _ he
    · simp
end Lx

/-- A row of tokens, read from its block's head. -/
def ToksIn (w : World) (v : Value) (ts : List Lx.Tok) : Prop :=
  (ts = [] ∧ ∃ a c, v = .slice a 0 c) ∨ ∃ g c cur fr, v = .slice (some ⟨g, 0, none⟩) ts.length c ∧ w.heap[g]? = some (.cells cur 26 fr) ∧ cur.toList.take (ts.length * 4) = ts.flatMap cellsT
theorem flat_at (ts : List Lx.Tok) : ∀ (m : Nat) (h : m < ts.length) (q : Nat), q < 4 → (ts.flatMap cellsT)[m * 4 + q]? = (cellsT (ts[m]'h))[q]? := by
  induction ts with
  | nil => intro m h; simp at h
  | cons t ts ih =>
    intro m h q hq
    rw [List.flatMap_cons]
    cases m with
    | zero => rw [List.getElem?_append_left (by simp [cellsT]; omega)]; simp
    | succ m =>
      rw [List.getElem?_append_right (by simp [cellsT]; omega)]
      have e : (m + 1) * 4 + q - (cellsT t).length = m * 4 + q := by simp [cellsT]; omega
      rw [e, ih m (by simpa using h) q hq]
      rfl
theorem toks_at {w : World} {ts : List Lx.Tok} {g m : Nat} {cur : Array Value} {fr : Nat × Nat} (hg : w.heap[g]? = some (.cells cur 26 fr)) (hc : cur.toList.take (ts.length * 4) = ts.flatMap cellsT) (h : m < ts.length) :
    w.cell? ⟨g, m * 4, none⟩ = some (.int .i64 (ts[m]'h).pos) ∧ w.cell? ⟨g, m * 4 + 1, none⟩ = some (.int .i64 (ts[m]'h).kind) ∧ w.cell? ⟨g, m * 4 + 2, none⟩ = some (.string ⟨(ts[m]'h).s.toArray⟩) ∧ w.cell? ⟨g, m * 4 + 3, none⟩ = some (.int .i64 (ts[m]'h).n) := by
  have e : ∀ q, q < 4 → w.cell? ⟨g, m * 4 + q, none⟩ = (cellsT (ts[m]'h))[q]? := by
    intro q hq
    rw [cell_of hg, ← Array.getElem?_toList, ← flat_at ts m h q hq, ← hc, List.getElem?_take_of_lt (by omega)]
  exact ⟨e 0 (by omega), e 1 (by omega), e 2 (by omega), e 3 (by omega)⟩
theorem Bld.kept {B b : Nat} {l : List UInt8} {w w' : World} (h : Bld B b l w) (hg : w.grownBy w' none) : Bld B b l w' := by
  have e : ∀ p, Lib.BuilderAt 86 5 B b p (Lib.byteCells l) w → Lib.BuilderAt 86 5 B b p (Lib.byteCells l) w' := by
    rintro p ⟨hB, v, hb, ho, hne⟩
    exact ⟨hB, v, (hg.block b (lt_of_block hb) (fun e => nomatch e)).trans hb, ho.kept hg (by cases v.ownBlock <;> simp), hne⟩
  exact h.imp (e _) (e _)

theorem bldLen (B b : Nat) (l : List UInt8) (w : World) (h : Bld B b l w) : Calls Tryz.prog 45 #[.pointer (some ⟨b, 0, none⟩)] w fun e w' => e = .returned (.int .i64 l.length) ∧ w' = w := by
  refine (Tryz.Builder_Len B b _ w h).mono ?_
  rintro e w' ⟨rfl, rfl⟩
  exact ⟨by rw [byteCells_length], rfl⟩

set_option maxHeartbeats 4000000 in
set_option maxRecDepth 100000 in
theorem lexJoin (ts : List Lx.Tok) (v : Value) (w : World) (hG : GS w) (hN : NG ≤ w.heap.size) (hv : ToksIn w v ts) (hl : ts.length ≤ 1000000000)
    (hts : ∀ t ∈ ts, t.s.length ≤ 1000000000 ∧ -9223372036854775808 ≤ t.n ∧ t.n ≤ 9223372036854775807) :
    Calls Tryz.prog 18 #[v] w fun e w' => e = .returned (.tuple #[.string ⟨(Lx.join ts).1.toArray⟩, .int .i64 (Lx.join ts).2]) ∧ Below w.heap.size w w' := by
  obtain ⟨a0, cp, rfl⟩ : ∃ a0 c, v = .slice a0 ts.length c := by
    rcases hv with ⟨rfl, a, c, rfl⟩ | ⟨g, c, cur, fr, rfl, _⟩
    · exact ⟨a, c, rfl⟩
    · exact ⟨_, c, rfl⟩
  have HV := Lib.hid hv
  clear hv
  go_enter Tryz.func18, Tryz.ntmps18
  have h0 : Bld w.heap.size w.heap.size [] (w.alloc (.cells #[.pointer none, .slice none 0 0] 86)) := Lib.fresh_isBuilder _ _ _
  have hb0 : Below w.heap.size w (w.alloc (.cells #[.pointer none, .slice none 0 0] 86)) := (Below.refl _ w).alloc (Nat.le_refl _) _
  have HJ : Hid (Lx.join ts = match Lx.joinFrom 0 [] ts with | none => ([], 1) | some b => if 65536 < b.length then ([], 2) else if 4096 < ts.length then ([], 3) else (b, 0)) := rfl
  go_wp2
  have H0 := Lib.hid h0
  have HB0 := Lib.hid hb0
  clear h0 hb0
  go_loopg [11] (ts.length) (fun n v wr => ∃ (m : Nat) (b : List UInt8), n = ts.length - m ∧ v = .int .i64 (m : Int) ∧ m ≤ ts.length ∧ Bld w.heap.size w.heap.size b wr ∧ Below w.heap.size w wr ∧ b.length ≤ 3000100000 ∧ Lx.joinFrom m b (ts.drop m) = Lx.joinFrom 0 [] ts)
  case atStart => exact ⟨0, [], rfl, rfl, Nat.zero_le _, H0.out, HB0.out, by simp, rfl⟩
  case round =>
    obtain ⟨m, b, hn, rfl, hm, hB, hb, hbl, he⟩ := hrel
    have HN := Lib.hid hn
    have HE := Lib.hid he
    clear hn he H0 HB0
    by_cases hlt : m < ts.length
    · have hi : (m : Int) < (ts.length : Int) := by omega
      have hi0 : (0 : Int) ≤ (m : Int) := by omega
      have hmi : (m : Int) ≤ 1000000000 := by omega
      obtain ⟨g, cur, fr, rfl, hgb, hcur⟩ : ∃ g cur fr, a0 = some ⟨g, 0, none⟩ ∧ w.heap[g]? = some (.cells cur 26 fr) ∧ cur.toList.take (ts.length * 4) = ts.flatMap cellsT := by
        rcases HV.out with ⟨h, _⟩ | ⟨g, c, cur, fr, h, h1, h2⟩
        · rw [h] at hlt; simp at hlt
        · injection h with h _ _; exact ⟨g, cur, fr, h, h1, h2⟩
      have hgl := lt_of_block hgb
      have hgb' := (hb.block g hgl).trans hgb
      obtain ⟨t0, t1, t2, t3⟩ := toks_at hgb' hcur hlt
      have hgl' := lt_of_block hgb'
      obtain ⟨t, ht⟩ : ∃ t, ts[m]'hlt = t := ⟨_, rfl⟩
      rw [ht] at t0 t1 t2 t3
      obtain ⟨ht1, ht2, ht3⟩ := hts t (by rw [← ht]; exact List.getElem_mem hlt)
      have HTM := Lib.hid (show ts.drop m = t :: ts.drop (m + 1) by rw [List.drop_eq_getElem_cons hlt, ht])
      clear ht hgb hgb'
      have hwr : Calls Tryz.prog 44 #[.agg #[.int .i64 t.pos, .int .i64 t.kind, .string ⟨t.s.toArray⟩, .int .i64 t.n]] (wr.alloc (.cells #[.int .i64 t.pos, .int .i64 t.kind, .string ⟨t.s.toArray⟩, .int .i64 t.n] 26)) fun e w' =>
          e = .returned (.tuple #[.string ⟨(Lx.written t).1.toArray⟩, .bool (Lx.written t).2]) ∧ (wr.alloc (.cells #[.int .i64 t.pos, .int .i64 t.kind, .string ⟨t.s.toArray⟩, .int .i64 t.n] 26)).grownBy w' none ∧ Below w.heap.size w w' ∧ Bld w.heap.size w.heap.size b w' :=
        (lexWritten t _ ((hG.below hb).alloc _) (by have := hb.size; simp; omega) ht1 ht2 ht3).mono fun e w' h => ⟨h.1, h.2, grown_below (((below_grown hb).trans (World.grownBy_alloc _ _ _)).trans h.2), (hB.kept (World.grownBy_alloc _ _ _)).kept h.2⟩
      have hwl := Lx.written_len t ht1 ht3
      obtain ⟨x, hx⟩ : ∃ x, (Lx.written t).1 = x := ⟨_, rfl⟩
      rw [hx] at hwr hwl
      have HXX := Lib.hid hx
      clear hx
      have hjf : Lx.joinFrom m b (ts.drop m) = if (Lx.written t).2 then Lx.joinFrom (m + 1) (Lx.joinStep m b x) (ts.drop (m + 1)) else none := by
        rw [HTM.out]; show (if (Lx.written t).2 then Lx.joinFrom (m + 1) (Lx.joinStep m b (Lx.written t).1) (ts.drop (m + 1)) else none) = _
        rw [HXX.out]
      have HJF := Lib.hid (HE.out.symm.trans hjf)
      clear hjf
      cases hok : (Lx.written t).2 with
      | false =>
        have HR := Lib.hid (show Lx.join ts = ([], 1) by rw [HJ.out, HJF.out, hok]; rfl)
        rw [hok] at hwr
        clear hok
        go_wp2_with (go_at_call 44; refine hwr.mono ?_; clear hwr; rintro e w5 ⟨rfl, hg5, hb5, hB5⟩; have hs5 := hb5.size)
        refine bodyPost_ret (results_tmp2 rfl _ _ _) rfl ?_
        rw [HR.out]
        exact ⟨rfl, hb5⟩
      | true =>
        have HR := Lib.hid (show Lx.joinFrom (m + 1) (Lx.joinStep m b x) (ts.drop (m + 1)) = Lx.joinFrom 0 [] ts by rw [HJF.out, hok]; rfl)
        rw [hok] at hwr
        clear hok
        by_cases hbig : 65536 < b.length
        · have hbi : (65536 : Int) < (b.length : Int) := by omega
          have hst : Lx.joinStep m b x = b := by unfold Lx.joinStep; rw [if_pos hbig]
          rw [hst] at HR
          clear hst
          go_wp2_with (first | (go_at_call 44; refine hwr.mono ?_; clear hwr; rintro e w5 ⟨rfl, hg5, hb5, hB5⟩; have hs5 := hb5.size) | (go_at_call 45; refine (bldLen _ _ _ _ hB5).mono ?_; rintro e w' ⟨rfl, rfl⟩))
          go_roundg (ts.length - (m + 1))
          case measure => have := HN.out; omega
          case rel => exact ⟨m + 1, b, rfl, by simp, hlt, hB5, hb5, hbl, HR.out⟩
        · have hbi : ¬ (65536 : Int) < (b.length : Int) := by omega
          by_cases hm0 : 0 < m
          · have hm0i : (0 : Int) < (m : Int) := by omega
            have hst : Lx.joinStep m b x = b ++ [32] ++ x := by unfold Lx.joinStep; rw [if_neg hbig, if_pos hm0]
            rw [hst] at HR
            clear hst
            go_wp2_with (first | (go_at_call 44; refine hwr.mono ?_; clear hwr; rintro e w5 ⟨rfl, hg5, hb5, hB5⟩; have hs5 := hb5.size) | (go_at_call 45; refine (bldLen _ _ _ _ hB5).mono ?_; rintro e w' ⟨rfl, rfl⟩) | (go_at_call 46; refine (bldByte w.heap.size w.heap.size b 32 _ hB5 (by omega) hs5).mono ?_; rintro e w6 ⟨rfl, h6, hb6⟩) | (go_at_call 47; refine (bldStr w.heap.size w.heap.size (b ++ [32]) ⟨x.toArray⟩ _ h6 (by show (b ++ [32]).length + x.length ≤ _; simp; omega) (by have := hb6.size; omega)).mono ?_; rintro e w7 ⟨rfl, h7, hb7⟩))
            go_roundg (ts.length - (m + 1))
            case measure => have := HN.out; omega
            case rel => exact ⟨m + 1, _, rfl, by simp, hlt, h7, (hb5.trans hb6).trans hb7, by show (b ++ [32] ++ x).length ≤ _; simp; omega, HR.out⟩
          · have hm0i : ¬ (0 : Int) < (m : Int) := by omega
            have hst : Lx.joinStep m b x = b ++ x := by unfold Lx.joinStep; rw [if_neg hbig, if_neg hm0]
            rw [hst] at HR
            clear hst
            go_wp2_with (first | (go_at_call 44; refine hwr.mono ?_; clear hwr; rintro e w5 ⟨rfl, hg5, hb5, hB5⟩; have hs5 := hb5.size) | (go_at_call 45; refine (bldLen _ _ _ _ hB5).mono ?_; rintro e w' ⟨rfl, rfl⟩) | (go_at_call 47; refine (bldStr w.heap.size w.heap.size b ⟨x.toArray⟩ _ hB5 (by show b.length + x.length ≤ _; omega) hs5).mono ?_; rintro e w7 ⟨rfl, h7, hb7⟩))
            go_roundg (ts.length - (m + 1))
            case measure => have := HN.out; omega
            case rel => exact ⟨m + 1, _, rfl, by simp, hlt, h7, hb5.trans hb7, by show (b ++ x).length ≤ _; simp; omega, HR.out⟩
    · have hme : m = ts.length := by omega
      have hi : ¬ (m : Int) < (ts.length : Int) := by omega
      have hjf : Lx.joinFrom 0 [] ts = some b := by
        rw [← HE.out, List.drop_eq_nil_of_le (by omega)]; rfl
      have HR := Lib.hid (show Lx.join ts = if 65536 < b.length then ([], 2) else if 4096 < ts.length then ([], 3) else (b, 0) by rw [HJ.out, hjf])
      clear hjf hme
      have hB5 := hB
      by_cases hbig : 65536 < b.length
      · have hbi : (65536 : Int) < (b.length : Int) := by omega
        have HR2 := Lib.hid (show Lx.join ts = ([], 2) by rw [HR.out, if_pos hbig])
        go_wp2_with (first | (go_at_call 45; refine (bldLen _ _ _ _ hB5).mono ?_; rintro e w' ⟨rfl, rfl⟩))
        refine bodyPost_ret (results_tmp2 rfl _ _ _) rfl ?_
        rw [HR2.out]
        exact ⟨rfl, hb⟩
      · have hbi : ¬ (65536 : Int) < (b.length : Int) := by omega
        by_cases hmany : 4096 < ts.length
        · have hmi : (4096 : Int) < (ts.length : Int) := by omega
          have HR2 := Lib.hid (show Lx.join ts = ([], 3) by rw [HR.out, if_neg hbig, if_pos hmany])
          go_wp2_with (first | (go_at_call 45; refine (bldLen _ _ _ _ hB5).mono ?_; rintro e w' ⟨rfl, rfl⟩))
          refine bodyPost_ret (results_tmp2 rfl _ _ _) rfl ?_
          rw [HR2.out]
          exact ⟨rfl, hb⟩
        · have hmi : ¬ (4096 : Int) < (ts.length : Int) := by omega
          have HR2 := Lib.hid (show Lx.join ts = (b, 0) by rw [HR.out, if_neg hbig, if_neg hmany])
          go_wp2_with (first | (go_at_call 45; refine (bldLen _ _ _ _ hB5).mono ?_; rintro e w' ⟨rfl, rfl⟩) | (go_at_call 48; refine (Tryz.Builder_String_any w.heap.size w.heap.size _ _ hB5 hb.size).mono ?_; rintro e w4 ⟨rfl, hb4⟩))
          refine bodyPost_ret (results_tmp2 rfl _ _ _) rfl ?_
          rw [HR2.out]
          exact ⟨rfl, hb.trans hb4⟩

end Go.Proofs.YtbhdkkkaeabkhaaGreatDoor

namespace Go.Proofs.YtbhdkkkaeabkhaaGreatDoor
open Go.ChangeShapes Go.WideShapes Go.ChangeAt Go.RowKit
set_option linter.unusedSimpArgs false
set_option linter.unusedVariables false

theorem int_bounds {n : Int} (h : (Lit.int .i64 n).wf = true) : -9223372036854775808 ≤ n ∧ n ≤ 9223372036854775807 := by
  simp only [Lit.wf, Bool.and_eq_true, decide_eq_true_eq] at h
  exact h

theorem list_of_all {α : Type} {P : Nat → α → Prop} : ∀ (n : Nat), (∀ i, i < n → ∃ x, P i x) → ∃ l : List α, l.length = n ∧ ∀ i (h : i < l.length), P i (l[i]'h)
  | 0, _ => ⟨[], rfl, fun i h => by simp at h⟩
  | n + 1, h => by
    obtain ⟨l, hl, hp⟩ := list_of_all n (fun i hi => h i (by omega))
    obtain ⟨x, hx⟩ := h n (by omega)
    refine ⟨l ++ [x], by simp [hl], fun i hi => ?_⟩
    by_cases hin : i < l.length
    · rw [List.getElem_append_left hin]; exact hp i hin
    · have : i = n := by simp at hi; omega
      subst this
      rw [List.getElem_append_right (by omega)]
      simpa [hl] using hx

/-- A token at a place of a row. -/
def TokAt (w : World) (b o : Nat) (t : Lx.Tok) : Prop :=
  w.cell? ⟨b, o, none⟩ = some (.int .i64 t.pos) ∧ w.cell? ⟨b, o + 1, none⟩ = some (.int .i64 t.kind) ∧ w.cell? ⟨b, o + 2, none⟩ = some (.string ⟨t.s.toArray⟩) ∧ w.cell? ⟨b, o + 3, none⟩ = some (.int .i64 t.n) ∧
    -9223372036854775808 ≤ t.n ∧ t.n ≤ 9223372036854775807
/-- A row of tokens that came in. -/
def ToksArg (w : World) (v : Value) (ts : List Lx.Tok) : Prop :=
  ∃ a c, v = .slice a ts.length c ∧ ∀ m (h : m < ts.length), ∃ b off, a = some ⟨b, off, none⟩ ∧ TokAt w b (off + m * 4) (ts[m]'h)

theorem fT0 : (Tryz.prog.fieldsOf 26)[0]?.map (fun f => (f.type, f.offset)) = some (24, 0) := by kernel_rfl
theorem fT1 : (Tryz.prog.fieldsOf 26)[1]?.map (fun f => (f.type, f.offset)) = some (3, 1) := by kernel_rfl
theorem fT2 : (Tryz.prog.fieldsOf 26)[2]?.map (fun f => (f.type, f.offset)) = some (9, 2) := by kernel_rfl
theorem fT3 : (Tryz.prog.fieldsOf 26)[3]?.map (fun f => (f.type, f.offset)) = some (3, 3) := by kernel_rfl
theorem fP0 : (Tryz.prog.fieldsOf 24)[0]?.map (fun f => (f.type, f.offset)) = some (3, 0) := by kernel_rfl
theorem uT : Tryz.prog.underlying 26 = some (.struct (Tryz.prog.fieldsOf 26)) := by kernel_rfl
theorem uP : Tryz.prog.underlying 24 = some (.struct (Tryz.prog.fieldsOf 24)) := by kernel_rfl
theorem cT : Tryz.prog.cellsOf 26 = 4 := by kernel_rfl
theorem cP : Tryz.prog.cellsOf 24 = 1 := by kernel_rfl
theorem cI : Tryz.prog.cellsOf 3 = 1 := by kernel_rfl
theorem cS : Tryz.prog.cellsOf 9 = 1 := by kernel_rfl

set_option maxRecDepth 100000 in
theorem tok_of_trod {H : Type} {enc : TypeId × Value → H} {w : World} {sp : Nat → Bool} {held : Bool} {fuel : Nat} {a b c d : Value} {x : DataW H × List MemPlace}
    (h : DataW.trod enc Tryz.prog w 0 sp held fuel 26 [a, b, c, d] = some x) :
    ∃ t : Lx.Tok, a = .int .i64 t.pos ∧ b = .int .i64 t.kind ∧ c = .string ⟨t.s.toArray⟩ ∧ d = .int .i64 t.n ∧ -9223372036854775808 ≤ t.n ∧ t.n ≤ 9223372036854775807 := by
  obtain ⟨xs, n, _, _, hl, hlen, hf⟩ := DataW.trod_struct uT h
  have step : ∀ (i : Nat) (ty off : Nat), (Tryz.prog.fieldsOf 26)[i]?.map (fun f => (f.type, f.offset)) = some (ty, off) → ∃ y, DataW.trod enc Tryz.prog w 0 sp held n ty (([a, b, c, d].drop off).take (Tryz.prog.cellsOf ty)) = some y := by
    intro i ty off hi
    obtain ⟨f, hfi, he⟩ := Option.map_eq_some_iff.1 hi
    injection he with e1 e2
    have := hf i f hfi
    rw [e1, e2] at this
    have hil : i < xs.length := by rw [hlen]; exact (Array.getElem?_eq_some_iff.1 hfi).1
    rw [List.getElem?_eq_getElem hil] at this
    exact ⟨_, this⟩
  obtain ⟨y0, h0⟩ := step 0 _ _ fT0
  obtain ⟨y1, h1⟩ := step 1 _ _ fT1
  obtain ⟨y2, h2⟩ := step 2 _ _ fT2
  obtain ⟨y3, h3⟩ := step 3 _ _ fT3
  rw [cP] at h0
  rw [cI] at h1 h3
  rw [cS] at h2
  simp only [List.drop_zero, List.drop_succ_cons, List.take_succ_cons, List.take_zero] at h0 h1 h2 h3
  obtain ⟨k1, e1, _, _⟩ := DataW.trod_int Tryz.underlying3 h1
  obtain ⟨k3, e3, _, w3⟩ := DataW.trod_int Tryz.underlying3 h3
  obtain ⟨s2, e2, _, _⟩ := DataW.trod_string Tryz.underlying9 h2
  obtain ⟨xs', n', _, _, hl', hlen', hf'⟩ := DataW.trod_struct uP h0
  obtain ⟨f, hfi, he⟩ := Option.map_eq_some_iff.1 fP0
  injection he with q1 q2
  have h00 := hf' 0 f hfi
  have hil : 0 < xs'.length := by rw [hlen']; exact (Array.getElem?_eq_some_iff.1 hfi).1
  rw [q1, q2, cI, List.getElem?_eq_getElem hil] at h00
  simp only [List.drop_zero, List.take_succ_cons, List.take_zero] at h00
  obtain ⟨k0, e0, _, _⟩ := DataW.trod_int Tryz.underlying3 h00
  injection e0 with e0
  injection e1 with e1
  injection e2 with e2
  injection e3 with e3
  refine ⟨⟨k0, k1, s2.data.toList, k3⟩, e0, e1, ?_, e3, int_bounds w3⟩
  rw [mk_back]
  exact e2

theorem cells_four {w : World} {a : Addr} {cs : List Value} (h : w.cells? 0 a 4 = some cs) : ∃ p q r s, cs = [p, q, r, s] ∧ w.cell? (a.add 0) = some p ∧ w.cell? (a.add 1) = some q ∧ w.cell? (a.add 2) = some r ∧ w.cell? (a.add 3) = some s := by
  unfold World.cells? at h
  rw [if_pos (Nat.zero_le _)] at h
  have hr : List.range 4 = [0, 1, 2, 3] := by decide
  rw [hr] at h
  cases h0 : w.cell? (a.add 0) with
  | none => simp [List.mapM_cons, h0] at h
  | some p =>
    cases h1 : w.cell? (a.add 1) with
    | none => simp [List.mapM_cons, h0, h1] at h
    | some q =>
      cases h2 : w.cell? (a.add 2) with
      | none => simp [List.mapM_cons, h0, h1, h2] at h
      | some r =>
        cases h3 : w.cell? (a.add 3) with
        | none => simp [List.mapM_cons, h0, h1, h2, h3] at h
        | some s =>
          simp [List.mapM_cons, h0, h1, h2, h3] at h
          exact ⟨p, q, r, s, h.symm, rfl, rfl, rfl, rfl⟩

theorem add_none (b off n : Nat) : (⟨b, off, none⟩ : Addr).add n = ⟨b, off + n, none⟩ := by
  unfold Addr.add
  split <;> simp_all
set_option maxRecDepth 100000 in
theorem open_toks {H : Type} {enc : TypeId × Value → H} {W : World} {base : Nat} {v : Value} {d : DataW H} {p : List MemPlace} {sp : Nat → Bool} {held : Bool} (hval : Value.okWide Tryz.prog W .any base 28 v) (hd : DataW.Trod enc Tryz.prog W 0 sp held 28 v d p) :
    ∃ ts, ToksArg W v ts := by
  obtain ⟨a0, len, cap, rfl⟩ := okWide_slice Tryz.underlying28 hval
  obtain ⟨fuel, hf⟩ := hd
  have hf' : DataW.trod enc Tryz.prog W 0 sp held fuel 28 [.slice a0 len cap] = some (d, p) := hf
  rcases DataW.trod_slice Tryz.underlying28 hf' with ⟨hcs, _⟩ | ⟨a, len', cap', elems, rest, n, _, hcs, _, _, _, _, hlen, hel, _⟩
  · injection hcs with hcs _
    injection hcs with h1 h2 h3
    subst h1 h2 h3
    exact ⟨[], none, 0, rfl, fun m h => by simp at h⟩
  · injection hcs with hcs _
    injection hcs with h1 h2 h3
    subst h1 h2 h3
    rw [cT] at hel
    have raw : ∀ i, i < len → ∃ t : Lx.Tok, W.cell? ((a.add (i * 4)).add 0) = some (.int .i64 t.pos) ∧ W.cell? ((a.add (i * 4)).add 1) = some (.int .i64 t.kind) ∧ W.cell? ((a.add (i * 4)).add 2) = some (.string ⟨t.s.toArray⟩) ∧ W.cell? ((a.add (i * 4)).add 3) = some (.int .i64 t.n) ∧
        -9223372036854775808 ≤ t.n ∧ t.n ≤ 9223372036854775807 := by
      intro i hi
      have he := hel i hi
      rw [List.getElem?_eq_getElem (by omega)] at he
      obtain ⟨cs, hc, ht⟩ := Option.bind_eq_some_iff.1 he
      obtain ⟨c0, c1, c2, c3, rfl, k0, k1, k2, k3⟩ := cells_four hc
      obtain ⟨t, rfl, rfl, rfl, rfl, b1, b2⟩ := tok_of_trod ht
      exact ⟨t, k0, k1, k2, k3, b1, b2⟩
    have key : ∀ i, i < len → ∃ t : Lx.Tok, ∃ b off, some a = some (⟨b, off, none⟩ : Addr) ∧ TokAt W b (off + i * 4) t := by
      intro i hi
      obtain ⟨t0, h0, _⟩ := raw 0 (by omega)
      obtain ⟨b, off, spot⟩ := a
      have hspot : spot = none := by simpa [Addr.add] using World.cell?_spot h0
      subst hspot
      obtain ⟨t, k0, k1, k2, k3, b1, b2⟩ := raw i hi
      rw [add_none, add_none] at k0 k1 k2 k3
      exact ⟨t, b, off, rfl, k0, k1, k2, k3, b1, b2⟩
    obtain ⟨ts, hl, hp⟩ := list_of_all len key
    refine ⟨ts, some a, cap, by rw [hl], fun m h => hp m h⟩

end Go.Proofs.YtbhdkkkaeabkhaaGreatDoor

namespace Go.Proofs.YtbhdkkkaeabkhaaGreatDoor.Lx
open Go

set_option linter.unusedSimpArgs false
/-! ### quoted, case by case -/
theorem quoted_esc (p : Nat) (c : UInt8) (t acc : Bytes) (k : Nat) : quoted p (92 :: c :: t) acc k = (if c.toNat == 110 then quoted p t (acc ++ [10]) (k + 2) else if c.toNat == 34 || c.toNat == 92 then quoted p t (acc ++ [c]) (k + 2) else .bad 12 (p + k + 1)) := rfl
theorem quoted_byte (p : Nat) (c : UInt8) (t acc : Bytes) (k : Nat) (e34 : c ≠ 34) (e92 : c ≠ 92) : quoted p (c :: t) acc k = (if c.toNat < 32 || 126 < c.toNat then Res.bad 12 (p + k) else quoted p t (acc ++ [c]) (k + 1)) := by
  rw [quoted.eq_def]
  split
  · cases ‹_ :: _ = []›
  · rename_i h1; injection h1 with h1 h2; exact absurd h1 e34
  · rename_i h1; injection h1 with h1 h2; exact absurd h1 e92
  · rename_i h1; injection h1 with h1 h2; exact absurd h1 e92
  · rename_i h1; injection h1 with h1 h2; subst h1; subst h2; rfl

/-- May a byte stand in a text? -/
def saidB (c : UInt8) : Bool := c.toNat == 10 || (decide (32 ≤ c.toNat) && decide (c.toNat ≤ 126))

theorem quoteIn_cons' (c : UInt8) (t : Bytes) : quoteIn (c :: t) = (if c.toNat == 10 then [92, 110] else if c.toNat == 34 || c.toNat == 92 then [92, c] else [c]) ++ quoteIn t := rfl

theorem u8ne {c : UInt8} {d : UInt8} : (c.toNat == d.toNat) = (c == d) := by
  rw [Bool.eq_iff_iff]; simp [UInt8.toNat_inj]

/-- What was cut as a text. -/
theorem quoted_form (p : Nat) (t : Tok) (n : Nat) : ∀ (m : Nat) (l acc : Bytes) (k : Nat), l.length ≤ m → quoted p l acc k = .ok t n →
    ∃ u x, l = quoteIn u ++ 34 :: x ∧ (∀ c ∈ u, saidB c = true) ∧ t = ⟨p, 5, acc ++ u, 0⟩ ∧ n = k + (quoteIn u).length + 1
  | m, [], acc, k, hm, h => by simp [quoted] at h
  | 0, c :: t', acc, k, hm, h => by simp at hm
  | m + 1, c :: t', acc, k, hm, h => by
    have hm' : t'.length ≤ m := by simpa using hm
    by_cases e34 : c = 34
    · subst e34
      simp [quoted] at h
      exact ⟨[], t', by simp [quoteIn], by simp, by simp [h.1], by simp [quoteIn, h.2]⟩
    · by_cases e92 : c = 92
      · subst e92
        cases t' with
        | nil => simp [quoted] at h
        | cons d t'' =>
          have hm2 : t''.length ≤ m := by simp at hm'; omega
          rw [quoted_esc] at h
          split at h
          · rename_i hd
            obtain ⟨u, x, e1, e2, e3, e4⟩ := quoted_form p t n m t'' _ _ hm2 h
            have hd' : d = 110 := UInt8.toNat_inj.1 (by simpa using hd)
            subst hd'
            refine ⟨10 :: u, x, ?_, ?_, ?_, ?_⟩
            · rw [quoteIn_cons', e1]; simp
            · intro c hc
              rcases List.mem_cons.1 hc with rfl | hc
              · rfl
              · exact e2 c hc
            · rw [e3]; simp
            · rw [quoteIn_cons', e4]; simp; omega
          · split at h
            · rename_i hn hd
              obtain ⟨u, x, e1, e2, e3, e4⟩ := quoted_form p t n m t'' _ _ hm2 h
              have h10 : (d.toNat == 10) = false := by
                simp only [Bool.or_eq_true, beq_iff_eq] at hd
                simp
                omega
              refine ⟨d :: u, x, ?_, ?_, ?_, ?_⟩
              · rw [quoteIn_cons', e1, h10, hd]; simp
              · intro c hc
                rcases List.mem_cons.1 hc with rfl | hc
                · simp only [Bool.or_eq_true, beq_iff_eq] at hd
                  unfold saidB
                  rcases hd with hd | hd <;> rw [hd] <;> rfl
                · exact e2 c hc
              · rw [e3]; simp
              · rw [quoteIn_cons', e4, h10, hd]; simp; omega
            · cases h
      · rw [quoted_byte p c t' acc k e34 e92] at h
        split at h
        · cases h
        · rename_i hc0
          obtain ⟨u, x, e1, e2, e3, e4⟩ := quoted_form p t n m t' _ _ hm' h
          have h34 : (c.toNat == 34) = false := by
            have := @u8ne c 34
            rw [show (34 : UInt8).toNat = 34 from rfl] at this
            rw [this]; simpa using e34
          have h92 : (c.toNat == 92) = false := by
            have := @u8ne c 92
            rw [show (92 : UInt8).toNat = 92 from rfl] at this
            rw [this]; simpa using e92
          have hr : 32 ≤ c.toNat ∧ c.toNat ≤ 126 := by
            simp only [Bool.or_eq_true, decide_eq_true_eq] at hc0
            omega
          have h10 : (c.toNat == 10) = false := by simp; omega
          refine ⟨c :: u, x, ?_, ?_, ?_, ?_⟩
          · rw [quoteIn_cons', e1, h10, h34, h92]; simp
          · intro d hd
            rcases List.mem_cons.1 hd with rfl | hd
            · unfold saidB; simp [hr]
            · exact e2 d hd
          · rw [e3]; simp
          · rw [quoteIn_cons', e4, h10, h34, h92]; simp; omega

theorem form_quoted (p : Nat) (x : Bytes) : ∀ (u acc : Bytes) (k : Nat), (∀ c ∈ u, saidB c = true) → quoted p (quoteIn u ++ 34 :: x) acc k = .ok ⟨p, 5, acc ++ u, 0⟩ (k + (quoteIn u).length + 1)
  | [], acc, k, _ => by simp [quoteIn, quoted]
  | c :: u, acc, k, h => by
    have hc := h c (List.mem_cons_self ..)
    have hu : ∀ c ∈ u, saidB c = true := fun d hd => h d (List.mem_cons_of_mem _ hd)
    rw [quoteIn_cons']
    by_cases h10 : (c.toNat == 10) = true
    · have hc' : c = 10 := UInt8.toNat_inj.1 (by simpa using h10)
      subst hc'
      show quoted p (92 :: 110 :: (quoteIn u ++ 34 :: x)) acc k = _
      rw [quoted_esc, if_pos (by rfl), form_quoted p x u _ _ hu]
      congr 1
      · simp
      · simp; omega
    · rw [if_neg h10]
      by_cases hq : (c.toNat == 34 || c.toNat == 92) = true
      · rw [if_pos hq]
        show quoted p (92 :: c :: (quoteIn u ++ 34 :: x)) acc k = _
        have hn : ¬ (c.toNat == 110) = true := by
          simp only [Bool.or_eq_true, beq_iff_eq] at hq ⊢
          omega
        rw [quoted_esc, if_neg hn, if_pos hq, form_quoted p x u _ _ hu]
        congr 1
        · simp
        · simp; omega
      · rw [if_neg hq]
        have e34 : c ≠ 34 := by rintro rfl; exact hq rfl
        have e92 : c ≠ 92 := by rintro rfl; exact hq rfl
        show quoted p (c :: (quoteIn u ++ 34 :: x)) acc k = _
        have hr : ¬ (decide (c.toNat < 32) || decide (126 < c.toNat)) = true := by
          unfold saidB at hc
          simp only [Bool.or_eq_true, Bool.and_eq_true, decide_eq_true_eq] at hc ⊢
          rcases hc with hc | hc
          · exact absurd hc h10
          · omega
        rw [quoted_byte p c _ acc k e34 e92, if_neg hr, form_quoted p x u _ _ hu]
        congr 1
        · simp
        · simp; omega

/-! ### a token's text -/
/-- A token without its place. -/
def Tok.bare (t : Tok) : Tok := { t with pos := 0 }

/-- 's' is the text of the token 't' (which has the place 0). -/
inductive Form : Bytes → Tok → Prop
  | name (c : UInt8) (s : Bytes) (hc : letter c = true) (hs : ∀ d ∈ c :: s, within d = true) (hl : (c :: s).length ≤ 32) : Form (c :: s) ⟨0, nameKind (c :: s), c :: s, 0⟩
  | number (c : UInt8) (s : Bytes) (hs : ∀ d ∈ c :: s, digit d = true) (hv : value (c :: s) ≤ 9223372036854775807) (hz : c = 48 → s = []) : Form (c :: s) ⟨0, 4, [], value (c :: s)⟩
  | text (u : Bytes) (hu : ∀ c ∈ u, saidB c = true) : Form (quote u) ⟨0, 5, u, 0⟩
  | two : Form [61, 61] ⟨0, 6, [61, 61], 0⟩
  | sign (c : UInt8) (hc : signs.contains c = true) : Form [c] ⟨0, 6, [c], 0⟩

/-- A rest that ends whatever stands ahead of it. -/
def Sep (x : Bytes) : Prop := ∀ c, x.head? = some c → within c = false ∧ c ≠ 61
/-- A rest that ends this one. -/
def After (s x : Bytes) (t : Tok) : Prop := (t.kind ≠ 5 → t.kind ≠ 6 → ∀ c, x.head? = some c → within c = false) ∧ (s = [61] → x.head? ≠ some 61)
theorem Sep.after {x : Bytes} (h : Sep x) (s : Bytes) (t : Tok) : After s x t := ⟨fun _ _ c hc => (h c hc).1, fun _ hc => (h 61 hc).2 rfl⟩
theorem sep_nil : Sep [] := fun c h => by cases h
theorem sep_cons {c : UInt8} {x : Bytes} (h1 : within c = false) (h2 : c ≠ 61) : Sep (c :: x) := fun d h => by injection h with h; subst h; exact ⟨h1, h2⟩

theorem takeWhile_all (f : UInt8 → Bool) : ∀ (s x : Bytes), (∀ c ∈ s, f c = true) → (∀ c, x.head? = some c → f c = false) → (s ++ x).takeWhile f = s
  | [], x, _, h => by
    cases x with
    | nil => rfl
    | cons c x => simp [List.takeWhile_cons, h c rfl]
  | a :: s, x, hs, h => by
    simp [List.takeWhile_cons, hs a (List.mem_cons_self ..), takeWhile_all f s x (fun c hc => hs c (List.mem_cons_of_mem _ hc)) h]
theorem takeWhile_split (f : UInt8 → Bool) : ∀ (l : Bytes), ∃ x, l = l.takeWhile f ++ x ∧ (∀ c ∈ l.takeWhile f, f c = true) ∧ (∀ c, x.head? = some c → f c = false)
  | [] => ⟨[], rfl, by simp, by simp⟩
  | a :: l => by
    by_cases ha : f a = true
    · obtain ⟨x, e1, e2, e3⟩ := takeWhile_split f l
      refine ⟨x, ?_, ?_, e3⟩
      · rw [List.takeWhile_cons, if_pos ha, List.cons_append, ← e1]
      · rw [List.takeWhile_cons, if_pos ha]
        intro c hc
        rcases List.mem_cons.1 hc with rfl | hc
        · exact ha
        · exact e2 c hc
    · refine ⟨a :: l, by rw [List.takeWhile_cons, if_neg ha]; rfl, by rw [List.takeWhile_cons, if_neg ha]; simp, ?_⟩
      intro c hc
      injection hc with hc
      subst hc
      simpa using ha

theorem digit_within {c : UInt8} (h : digit c = true) : within c = true := by simp [within, h]
theorem letter_within {c : UInt8} (h : letter c = true) : within c = true := by simp [within, h]
theorem letter_not_digit {c : UInt8} (h : letter c = true) : digit c = false := by
  simp only [letter, small, great, digit, Bool.or_eq_true, Bool.and_eq_true, decide_eq_true_eq] at *
  simp
  omega
theorem digit_not_letter {c : UInt8} (h : digit c = true) : letter c = false := by
  rw [← Bool.not_eq_true]
  intro h'
  rw [letter_not_digit h'] at h
  cases h
theorem sign_cases {c : UInt8} (h : signs.contains c = true) : letter c = false ∧ digit c = false ∧ (c.toNat == 34) = false ∧ c ≠ 47 ∧ blank c = false := by
  have : c = 40 ∨ c = 41 ∨ c = 123 ∨ c = 125 ∨ c = 59 ∨ c = 58 ∨ c = 44 ∨ c = 46 ∨ c = 61 ∨ c = 60 ∨ c = 43 ∨ c = 45 ∨ c = 42 := by simpa [signs] using h
  rcases this with rfl | rfl | rfl | rfl | rfl | rfl | rfl | rfl | rfl | rfl | rfl | rfl | rfl <;> decide

theorem form_cut {s x : Bytes} {t : Tok} (h : Form s t) (ha : After s x t) (p : Nat) : cut p (s ++ x) = .ok { t with pos := p } s.length := by
  cases h with
  | name c s hc hs hl =>
    have hk : nameKind (c :: s) ≠ 5 ∧ nameKind (c :: s) ≠ 6 := by
      unfold nameKind
      split
      · decide
      · split <;> decide
    have ht := takeWhile_all within (c :: s) x hs (ha.1 (by have := hk.1; show ((nameKind (c :: s) : Nat) : Int) ≠ 5; omega) (by have := hk.2; show ((nameKind (c :: s) : Nat) : Int) ≠ 6; omega))
    show cut p (c :: (s ++ x)) = _
    simp only [cut, hc, if_true, cutName]
    rw [show c :: (s ++ x) = (c :: s) ++ x from rfl, ht]
    rw [if_neg (by omega)]
  | number c s hs hv hz =>
    have hd := hs c (List.mem_cons_self ..)
    have hx := ha.1 (by simp) (by simp)
    have ht := takeWhile_all digit (c :: s) x hs (fun d hd' => by
      have := hx d hd'
      simp only [within, Bool.or_eq_false_iff] at this
      exact this.1.2)
    show cut p (c :: (s ++ x)) = _
    simp only [cut, digit_not_letter hd, hd, if_true, cutNumber, Bool.false_eq_true, if_false]
    rw [show c :: (s ++ x) = (c :: s) ++ x from rfl, ht]
    rw [if_neg]
    simp only [List.drop_left, Bool.or_eq_true, not_or, Bool.and_eq_true, decide_eq_true_eq]
    refine ⟨⟨by omega, ?_⟩, ?_⟩
    · rintro ⟨h1, h2⟩
      have : c = 48 := by simpa using h1
      rw [hz this] at h2
      simp at h2
    · cases hx' : x.head? with
      | none => simp
      | some d => simp [hx d hx']
  | text u hu =>
    show cut p (34 :: (quoteIn u ++ [34] ++ x)) = _
    have : cut p (34 :: (quoteIn u ++ [34] ++ x)) = quoted p (quoteIn u ++ [34] ++ x) [] 1 := rfl
    rw [this, show quoteIn u ++ [34] ++ x = quoteIn u ++ 34 :: x by simp, form_quoted p x u [] 1 hu]
    simp [quote]
    omega
  | two => rfl
  | sign c hc =>
    obtain ⟨h1, h2, h3, -⟩ := sign_cases hc
    show cut p (c :: x) = _
    simp only [cut, h1, h2, h3, Bool.false_eq_true, if_false]
    rw [if_neg]
    · rfl
    · simp only [Bool.and_eq_true, beq_iff_eq, not_and]
      intro h61
      have : c = 61 := UInt8.toNat_inj.1 h61
      subst this
      exact ha.2 rfl

theorem cut_form {p : Nat} {l : Bytes} {t : Tok} {n : Nat} (hb : ∀ c, l.head? = some c → begins c = true) (h : cut p l = .ok t n) :
    ∃ s x, l = s ++ x ∧ s.length = n ∧ Form s t.bare ∧ After s x t.bare ∧ t = { t.bare with pos := p } := by
  cases l with
  | nil => simp [cut] at h
  | cons b l =>
    have hb0 := hb b rfl
    simp only [cut] at h
    split at h
    · rename_i hl
      unfold cutName at h
      simp only at h
      obtain ⟨x, e1, e2, e3⟩ := takeWhile_split within (b :: l)
      have hcons : (b :: l).takeWhile within = b :: l.takeWhile within := by rw [List.takeWhile_cons, if_pos (letter_within hl)]
      rw [hcons] at e1 e2 h
      split at h
      · cases h
      · rename_i hle
        injection h with h1 h2
        subst h1
        exact ⟨_, x, e1, h2, .name b _ hl e2 (by omega), ⟨fun _ _ => e3, fun h61 hx => by
          injection h61 with h61 _
          subst h61
          cases hl⟩, rfl⟩
    · rename_i hl
      split at h
      · rename_i hd
        unfold cutNumber at h
        simp only at h
        obtain ⟨x, e1, e2, e3⟩ := takeWhile_split digit (b :: l)
        have hcons : (b :: l).takeWhile digit = b :: l.takeWhile digit := by rw [List.takeWhile_cons, if_pos hd]
        rw [hcons] at e1 e2 h
        split at h
        · cases h
        · rename_i hno
          injection h with h1 h2
          subst h1
          simp only [Bool.or_eq_true, not_or, Bool.and_eq_true, decide_eq_true_eq] at hno
          obtain ⟨⟨hv, hz⟩, hw⟩ := hno
          have hdrop : (b :: l).drop (b :: l.takeWhile digit).length = x := by
            conv => lhs; rw [e1]
            rw [List.drop_left]
          rw [hdrop] at hw
          refine ⟨_, x, e1, h2, .number b _ e2 (by omega) ?_, ⟨fun _ _ c hc => ?_, fun h61 hx => ?_⟩, rfl⟩
          · intro h48
            subst h48
            cases hts : l.takeWhile digit with
            | nil => rfl
            | cons => exact absurd ⟨rfl, by rw [hts]; simp⟩ hz
          · rw [hc] at hw
            simpa using hw
          · injection h61 with h61 _
            subst h61
            cases hd
      · rename_i hd
        split at h
        · rename_i h34
          have hb34 : b = 34 := UInt8.toNat_inj.1 (by simpa using h34)
          subst hb34
          obtain ⟨u, x, e1, e2, e3, e4⟩ := quoted_form p t n _ l [] 1 (Nat.le_refl _) h
          refine ⟨quote u, x, ?_, ?_, ?_, ?_, ?_⟩
          · rw [e1]; simp [quote]
          · rw [e4]; simp [quote]; omega
          · rw [e3]; exact .text u e2
          · refine ⟨fun h5 => absurd (by rw [e3]; rfl) h5, fun h61 => ?_⟩
            injection h61 with h61 _
            cases h61
          · rw [e3]; rfl
        · rename_i h34
          have hsg : signs.contains b = true := by
            unfold begins at hb0
            simp only [Bool.or_eq_true] at hb0
            rcases hb0 with ((h | h) | h) | h
            · exact absurd h hl
            · exact absurd h hd
            · exact absurd h h34
            · exact h
          split at h
          · rename_i h61
            injection h with h1 h2
            subst h1
            simp only [Bool.and_eq_true, beq_iff_eq] at h61
            have hb61 : b = 61 := UInt8.toNat_inj.1 h61.1
            subst hb61
            cases l with
            | nil => cases h61.2
            | cons d l =>
              have : d = 61 := by simpa using h61.2
              subst this
              exact ⟨[61, 61], l, rfl, h2, .two, ⟨fun _ h6 => absurd rfl h6, fun he => by cases he⟩, rfl⟩
          · rename_i h61
            injection h with h1 h2
            subst h1
            refine ⟨[b], l, rfl, h2, .sign b hsg, ⟨fun _ h6 => absurd rfl h6, fun he hx => ?_⟩, rfl⟩
            injection he with he
            subst he
            exact h61 (by simp [hx])

/-! ### decimal digits -/
theorem decDigits_step (u : Nat) (h : 10 ≤ u) : Lib.decDigits u = Lib.decDigits (u / 10) ++ [UInt8.ofNat (48 + u % 10)] := by
  conv => lhs; rw [Lib.decDigits, dif_neg (by omega)]
theorem digit_back {c : UInt8} (h : digit c = true) : UInt8.ofNat (48 + (c.toNat - 48)) = c := by
  simp only [digit, Bool.and_eq_true, decide_eq_true_eq] at h
  rw [show 48 + (c.toNat - 48) = c.toNat by omega]
  exact UInt8.ofNat_toNat
theorem decDigits_fold : ∀ (l : Bytes) (v : Nat), 1 ≤ v → (∀ c ∈ l, digit c = true) → Lib.decDigits (l.foldl (fun v c => v * 10 + (c.toNat - 48)) v) = Lib.decDigits v ++ l
  | [], v, _, _ => by simp
  | c :: l, v, hv, hl => by
    have hc := hl c (List.mem_cons_self ..)
    have hc' := hc
    simp only [digit, Bool.and_eq_true, decide_eq_true_eq] at hc'
    rw [List.foldl_cons, decDigits_fold l _ (by omega) (fun d hd => hl d (List.mem_cons_of_mem _ hd)), decDigits_step _ (by omega)]
    rw [show (v * 10 + (c.toNat - 48)) / 10 = v by omega, show (v * 10 + (c.toNat - 48)) % 10 = c.toNat - 48 by omega, digit_back hc]
    simp
theorem decDigits_value {c : UInt8} {s : Bytes} (hs : ∀ d ∈ c :: s, digit d = true) (hz : c = 48 → s = []) : Lib.decDigits (value (c :: s)) = c :: s := by
  have hc := hs c (List.mem_cons_self ..)
  have hc' := hc
  simp only [digit, Bool.and_eq_true, decide_eq_true_eq] at hc'
  have h1 : Lib.decDigits (c.toNat - 48) = [c] := by rw [Lib.decDigits_one (by omega), digit_back hc]
  unfold value
  rw [List.foldl_cons, show 0 * 10 + (c.toNat - 48) = c.toNat - 48 by omega]
  by_cases h48 : c = 48
  · rw [hz h48]; exact h1
  · have : c.toNat ≠ 48 := fun e => h48 (UInt8.toNat_inj.1 e)
    rw [decDigits_fold s _ (by omega) (fun d hd => hs d (List.mem_cons_of_mem _ hd)), h1]
    rfl
/-- The digits of a number: digits, no nought ahead, and their value. -/
theorem decDigits_form (u : Nat) : ∃ c s, Lib.decDigits u = c :: s ∧ (∀ d ∈ c :: s, digit d = true) ∧ value (c :: s) = u ∧ (c = 48 → s = [] ∧ u = 0) := by
  induction u using Nat.strongRecOn with
  | _ u ih =>
    have hd : ∀ m, m < 10 → digit (UInt8.ofNat (48 + m)) = true ∧ (UInt8.ofNat (48 + m)).toNat = 48 + m := by
      intro m hm
      have : (UInt8.ofNat (48 + m)).toNat = 48 + m := by rw [UInt8.toNat_ofNat', Nat.mod_eq_of_lt (by omega)]
      refine ⟨?_, this⟩
      simp only [digit, this, Bool.and_eq_true, decide_eq_true_eq]
      omega
    by_cases h : u < 10
    · refine ⟨UInt8.ofNat (48 + u), [], Lib.decDigits_one h, ?_, ?_, ?_⟩
      · intro d hd'
        rw [List.mem_singleton] at hd'
        subst hd'
        exact (hd u h).1
      · unfold value
        rw [List.foldl_cons, List.foldl_nil, (hd u h).2]
        omega
      · intro e
        refine ⟨rfl, ?_⟩
        have := (hd u h).2
        rw [e] at this
        have h48 : (48 : UInt8).toNat = 48 := rfl
        omega
    · obtain ⟨c, s, e1, e2, e3, e4⟩ := ih (u / 10) (by omega)
      refine ⟨c, s ++ [UInt8.ofNat (48 + u % 10)], ?_, ?_, ?_, ?_⟩
      · rw [decDigits_step u (by omega), e1]; simp
      · intro d hd'
        rw [← List.cons_append, List.mem_append] at hd'
        rcases hd' with hd' | hd'
        · exact e2 d hd'
        · rw [List.mem_singleton] at hd'
          subst hd'
          exact (hd _ (by omega)).1
      · rw [← List.cons_append]
        unfold value at e3 ⊢
        rw [List.foldl_append, e3]
        rw [List.foldl_cons, List.foldl_nil, (hd (u % 10) (by omega)).2]
        omega
      · intro e
        have := (e4 e).2
        omega

/-! ### written -/
theorem form_begins {s : Bytes} {t : Tok} (h : Form s t) : ∃ c l, s = c :: l ∧ begins c = true := by
  cases h with
  | name c s hc _ _ => exact ⟨c, s, rfl, by simp [begins, hc]⟩
  | number c s hs _ _ => exact ⟨c, s, rfl, by simp [begins, hs c (List.mem_cons_self ..)]⟩
  | text u _ => exact ⟨34, _, rfl, rfl⟩
  | two => exact ⟨61, _, rfl, rfl⟩
  | sign c hc => exact ⟨c, [], rfl, by simp only [begins, hc, Bool.or_true]⟩
theorem form_raw {s : Bytes} {t : Tok} (h : Form s t) : raw t = some s := by
  cases h with
  | name c s hc hs hl =>
    unfold raw
    rw [if_pos]
    unfold nameKind
    split
    · simp
    · split <;> simp
  | number c s hs hv hz =>
    unfold raw
    rw [if_neg (by simp), if_pos rfl, if_neg (by simp)]
    show some (Lib.decDigits (value (c :: s))) = _
    rw [decDigits_value hs hz]
  | text u hu => rfl
  | two => rfl
  | sign c hc => rfl
theorem raw_bare (t : Tok) : raw t.bare = raw t := rfl
theorem form_pos {s : Bytes} {t : Tok} (h : Form s t) : t.pos = 0 := by cases h <;> rfl
theorem written_of_form {s : Bytes} {t : Tok} (h : Form s t.bare) : written t = (s, true) := by
  have hr := form_raw h
  obtain ⟨c, l, rfl, hb⟩ := form_begins h
  rw [raw_bare] at hr
  have hc := form_cut h (sep_nil.after _ _) 0
  rw [List.append_nil] at hc
  unfold written
  rw [hr]
  simp only [hb, if_true, held, hc]
  simp [Tok.bare]
theorem form_of_written {t : Tok} (h : (written t).2 = true) : Form (written t).1 t.bare := by
  unfold written at h ⊢
  cases hr : raw t with
  | none => rw [hr] at h; cases h
  | some s =>
    rw [hr] at h
    cases s with
    | nil => cases h
    | cons c l =>
      simp only at h ⊢
      by_cases hb : begins c = true
      · rw [if_pos hb] at h ⊢
        unfold held at h
        cases hcut : cut 0 (c :: l) with
        | bad y x => simp [hcut] at h
        | ok x n =>
          simp only [hcut, Bool.and_eq_true, beq_iff_eq] at h
          obtain ⟨s, x', e1, e2, e3, e4, e5⟩ := cut_form (fun d hd => by injection hd with hd; subst hd; exact hb) hcut
          have hx : x' = [] := by
            have := congrArg List.length e1
            rw [List.length_append] at this
            exact List.length_eq_zero_iff.1 (by omega)
          rw [hx, List.append_nil] at e1
          rw [e1]
          have : x.bare = t.bare := by rw [h.2]; rfl
          rw [← this]
          exact e3
      · rw [if_neg hb] at h
        cases h

end Go.Proofs.YtbhdkkkaeabkhaaGreatDoor.Lx

namespace Go.Proofs.YtbhdkkkaeabkhaaGreatDoor
open Go.RowKit
set_option maxHeartbeats 400000
set_option linter.unusedSimpArgs false
set_option linter.unusedVariables false

theorem refSmall (b : UInt8) (w : World) : Calls Tryz.prog 72 #[.int .u8 (b.toNat : Int)] w fun e w' => e = .returned (.bool (Lx.small b)) ∧ w = w' := by
  go_enter Tryz.func72, Tryz.ntmps72
  go_wp2
  all_goals
    go_ret
    refine ⟨ret_bool ?_, rfl⟩
    rw [Bool.eq_iff_iff]
    simp [Lx.small]
    omega
theorem refGreat (b : UInt8) (w : World) : Calls Tryz.prog 73 #[.int .u8 (b.toNat : Int)] w fun e w' => e = .returned (.bool (Lx.great b)) ∧ w = w' := by
  go_enter Tryz.func73, Tryz.ntmps73
  go_wp2
  all_goals
    go_ret
    refine ⟨ret_bool ?_, rfl⟩
    rw [Bool.eq_iff_iff]
    simp [Lx.great]
    omega
theorem refDigit (b : UInt8) (w : World) : Calls Tryz.prog 74 #[.int .u8 (b.toNat : Int)] w fun e w' => e = .returned (.bool (Lx.digit b)) ∧ w = w' := by
  go_enter Tryz.func74, Tryz.ntmps74
  go_wp2
  all_goals
    go_ret
    refine ⟨ret_bool ?_, rfl⟩
    rw [Bool.eq_iff_iff]
    simp [Lx.digit]
    omega
theorem refSaid (b : UInt8) (w : World) : Calls Tryz.prog 80 #[.int .u8 (b.toNat : Int)] w fun e w' => e = .returned (.bool (Lx.saidB b)) ∧ w = w' := by
  go_enter Tryz.func80, Tryz.ntmps80
  go_wp2
  all_goals
    go_ret
    refine ⟨ret_bool ?_, rfl⟩
    rw [Bool.eq_iff_iff]
    simp [Lx.saidB]
    omega
def plainB (c : UInt8) : Bool := decide (32 ≤ c.toNat) && (decide (c.toNat ≤ 126) && (!(c.toNat == 34) && !(c.toNat == 92)))
theorem refPlain (b : UInt8) (w : World) : Calls Tryz.prog 97 #[.int .u8 (b.toNat : Int)] w fun e w' => e = .returned (.bool (plainB b)) ∧ w = w' := by
  go_enter Tryz.func97, Tryz.ntmps97
  go_wp2
  all_goals
    go_ret
    refine ⟨ret_bool ?_, rfl⟩
    rw [Bool.eq_iff_iff]
    simp [plainB]
    omega
theorem refGrows (b : UInt8) (w : World) : Calls Tryz.prog 95 #[.int .u8 (b.toNat : Int)] w fun e w' => e = .returned (.bool (Lx.within b)) ∧ w = w' := by
  go_enter Tryz.func95, Tryz.ntmps95
  cases hs : Lx.small b <;> cases hg : Lx.great b <;> cases hd : Lx.digit b
  all_goals
    have HW := Lib.hid (show Lx.within b = ((Lx.small b || Lx.great b) || Lx.digit b || b.toNat == 95) from rfl)
    rw [hs, hg, hd] at HW
    go_wp2_with (first
      | (go_at_call 72; refine (refSmall _ _).mono ?_; rw [hs]; rintro e w' ⟨rfl, rfl⟩)
      | (go_at_call 73; refine (refGreat _ _).mono ?_; rw [hg]; rintro e w' ⟨rfl, rfl⟩)
      | (go_at_call 74; refine (refDigit _ _).mono ?_; rw [hd]; rintro e w' ⟨rfl, rfl⟩))
    go_ret
    refine ⟨ret_bool ?_, rfl⟩
    rw [HW.out]
    first | rfl | (rw [Bool.eq_iff_iff]; simp; try omega)

end Go.Proofs.YtbhdkkkaeabkhaaGreatDoor

namespace Go.Proofs.YtbhdkkkaeabkhaaGreatDoor
open Go.RowKit
set_option linter.unusedSimpArgs false
set_option linter.unusedVariables false

theorem u8f (c : UInt8) (n : Nat) (h : ¬ c.toNat = n) : ((c.toNat : Int) == (n : Int)) = false := by simp; omega
theorem u8t (c : UInt8) (n : Nat) (h : c.toNat = n) : ((c.toNat : Int) == (n : Int)) = true := by simp [h]

set_option maxRecDepth 100000 in
set_option maxHeartbeats 4000000 in
theorem refSkip (s : ByteArray) (k : Nat) (w : World) (hk : k ≤ s.size) (hs : s.size ≤ 140737488351232) :
    Calls Tryz.prog 50 #[.string s, .int .i64 (k : Int)] w fun e w' => e = .returned (.int .i64 (skipAt s k : Nat)) ∧ w' = w := by
  have hsi : (s.size : Int) ≤ 140737488351232 := by omega
  go_enter Tryz.func50, Tryz.ntmps50
  go_wp2
  go_loopg [1] (s.size - k) (fun n v wr => ∃ m : Nat, n = s.size - m ∧ v = .int .i64 (m : Int) ∧ m ≤ s.size ∧ Lx.skip false (s.data.toList.drop m) = Lx.skip false (s.data.toList.drop k) ∧ wr = w)
  case atStart => exact ⟨k, rfl, rfl, hk, rfl, rfl⟩
  case round =>
    obtain ⟨m, hn, rfl, hm, he, rfl⟩ := hrel
    obtain ⟨g0, hg0⟩ : ∃ g0, g0 = gk := ⟨_, rfl⟩
    have HE := Lib.hid he
    have HN : Hid (g0 = s.size - m) := by rw [hg0]; exact hn
    subst hg0
    clear he hn
    have hi0 : (0 : Int) ≤ (m : Int) := by omega
    by_cases hlt : m < s.size
    · have hi : (m : Int) < (s.size : Int) := by omega
      have HD := Lib.hid (byte_at s m hlt)
      obtain ⟨c, hc⟩ : ∃ c, s[m]'hlt = c := ⟨_, rfl⟩
      rw [hc] at HD
      have hblank : Lx.blank c = true → Lx.skip false (s.data.toList.drop (m + 1)) = Lx.skip false (s.data.toList.drop k) := fun h => by
        have e := HE.out
        rw [HD.out, Lx.skip_blank h] at e
        exact e
      by_cases h9 : c.toNat = 9
      · have b9 : ((c.toNat : Int) == 9) = true := u8t c 9 h9
        have HB := Lib.hid (hblank (by simp [Lx.blank, h9]))
        clear hblank h9
        go_wp2
        go_roundg (s.size - (m + 1))
        case measure => have := HN.out; omega
        case rel => exact ⟨m + 1, rfl, by simp, hlt, HB.out, rfl⟩
      · have b9 : ((c.toNat : Int) == 9) = false := u8f c 9 h9
        by_cases h10 : c.toNat = 10
        · have b10 : ((c.toNat : Int) == 10) = true := u8t c 10 h10
          have HB := Lib.hid (hblank (by simp [Lx.blank, h10]))
          clear hblank h9 h10
          go_wp2
          go_roundg (s.size - (m + 1))
          case measure => have := HN.out; omega
          case rel => exact ⟨m + 1, rfl, by simp, hlt, HB.out, rfl⟩
        · have b10 : ((c.toNat : Int) == 10) = false := u8f c 10 h10
          by_cases h13 : c.toNat = 13
          · have b13 : ((c.toNat : Int) == 13) = true := u8t c 13 h13
            have HB := Lib.hid (hblank (by simp [Lx.blank, h13]))
            clear hblank h9 h10 h13
            go_wp2
            go_roundg (s.size - (m + 1))
            case measure => have := HN.out; omega
            case rel => exact ⟨m + 1, rfl, by simp, hlt, HB.out, rfl⟩
          · have b13 : ((c.toNat : Int) == 13) = false := u8f c 13 h13
            by_cases h32 : c.toNat = 32
            · have b32 : ((c.toNat : Int) == 32) = true := u8t c 32 h32
              have HB := Lib.hid (hblank (by simp [Lx.blank, h32]))
              clear hblank h9 h10 h13 h32
              go_wp2
              go_roundg (s.size - (m + 1))
              case measure => have := HN.out; omega
              case rel => exact ⟨m + 1, rfl, by simp, hlt, HB.out, rfl⟩
            · have b32 : ((c.toNat : Int) == 32) = false := u8f c 32 h32
              have hnb : Lx.blank c = false := by simp [Lx.blank, h9, h10, h13, h32]
              have hstay : ¬ (c.toNat = 47 ∧ (s.data.toList.drop (m + 1)).head? = some 47) → skipAt s k = m := fun h => by
                have e := HE.out
                rw [HD.out, Lx.skip_stays hnb h, ← HD.out] at e
                exact skipAt_of e.symm hm
              by_cases h47 : c.toNat = 47
              · have n47 : ((c.toNat : Int) != 47) = false := by simp [h47]
                by_cases hend : m + 1 = s.size
                · have be : ((m : Int) + 1 == (s.size : Int)) = true := by simp; omega
                  have HS := Lib.hid (hstay (by
                    rintro ⟨_, h⟩
                    rw [List.drop_eq_nil_of_le (by rw [len_size]; omega)] at h
                    cases h))
                  clear hblank hstay h9 h10 h13 h32 hnb h47 hend
                  go_wp2
                  go_ret
                  rw [HS.out]
                  exact ⟨rfl, rfl⟩
                · have be : ((m : Int) + 1 == (s.size : Int)) = false := by simp; omega
                  have hlt2 : m + 1 < s.size := by omega
                  have hi2 : (m : Int) + 1 < (s.size : Int) := by omega
                  have hi1 : (0 : Int) ≤ (m : Int) + 1 := by omega
                  have HD2 := Lib.hid (byte_at s (m + 1) hlt2)
                  obtain ⟨d, hd⟩ : ∃ d, s[m + 1]'hlt2 = d := ⟨_, rfl⟩
                  rw [hd] at HD2
                  by_cases d47 : d.toNat = 47
                  · have nd : ((d.toNat : Int) != 47) = false := by simp [d47]
                    have hd' : d = 47 := UInt8.toNat_inj.1 d47
                    have HR := Lib.hid (show Lx.skip true (s.data.toList.drop m) = Lx.skip false (s.data.toList.drop k) by
                      have e := HE.out
                      rw [HD.out, Lx.skip_remark hnb h47 (by rw [HD2.out, hd']; rfl)] at e
                      rw [HD.out, Lx.skip_within (by omega)]
                      exact e)
                    have H47 := Lib.hid h47
                    have HC := Lib.hid hc
                    clear hblank hstay h9 h10 h13 h32 hnb h47 hend d47 hd'
                    go_wp2
                    go_loopg [1] (s.size - m) (fun n v wq => ∃ p : Nat, n = s.size - p ∧ v = .int .i64 (p : Int) ∧ m ≤ p ∧ p ≤ s.size ∧ Lx.skip true (s.data.toList.drop p) = Lx.skip false (s.data.toList.drop k) ∧ wq = wr)
                    case atStart => exact ⟨m, rfl, rfl, Nat.le_refl _, hm, HR.out, rfl⟩
                    case round =>
                      obtain ⟨p, hn2, rfl, hmp, hp, he2, rfl⟩ := hrel
                      have HE2 := Lib.hid he2
                      have HN2 := Lib.hid hn2
                      clear he2 hn2
                      have hp0 : (0 : Int) ≤ (p : Int) := by omega
                      by_cases hlp : p < s.size
                      · have hip : (p : Int) < (s.size : Int) := by omega
                        have HDp := Lib.hid (byte_at s p hlp)
                        obtain ⟨x, hx⟩ : ∃ x, s[p]'hlp = x := ⟨_, rfl⟩
                        rw [hx] at HDp
                        by_cases x10 : x.toNat = 10
                        · have nx : ((x.toNat : Int) != 10) = false := by simp [x10]
                          have hpm : m < p := by
                            rcases Nat.lt_or_ge m p with h | h
                            · exact h
                            · exfalso
                              have : p = m := by omega
                              subst this
                              have e1 := HC.out
                              rw [hx] at e1
                              have e2 := H47.out
                              rw [← e1] at e2
                              omega
                          have HB := Lib.hid (show Lx.skip false (s.data.toList.drop p) = Lx.skip false (s.data.toList.drop k) by
                            have e := HE2.out
                            rw [HDp.out, Lx.skip_out x10, ← HDp.out] at e
                            exact e)
                          clear x10
                          go_wp2
                          go_roundg (s.size - p)
                          case measure => have := HN.out; omega
                          case rel => exact ⟨p, rfl, rfl, hp, HB.out, rfl⟩
                        · have nx : ((x.toNat : Int) != 10) = true := by simp; omega
                          have HB := Lib.hid (show Lx.skip true (s.data.toList.drop (p + 1)) = Lx.skip false (s.data.toList.drop k) by
                            have e := HE2.out
                            rw [HDp.out, Lx.skip_within x10] at e
                            exact e)
                          clear x10
                          go_wp2
                          go_roundg (s.size - (p + 1))
                          case measure => have := HN2.out; omega
                          case rel => exact ⟨p + 1, rfl, by simp, by omega, hlp, HB.out, rfl⟩
                      · have hip : ¬ (p : Int) < (s.size : Int) := by omega
                        have HB := Lib.hid (show Lx.skip false (s.data.toList.drop p) = Lx.skip false (s.data.toList.drop k) by
                          have e := HE2.out
                          rw [List.drop_eq_nil_of_le (by rw [len_size]; omega)] at e ⊢
                          rw [Lx.skip_end] at e ⊢
                          exact e)
                        go_wp2
                        go_roundg (s.size - p)
                        case measure => have := HN.out; omega
                        case rel => exact ⟨p, rfl, rfl, hp, HB.out, rfl⟩
                  · have nd : ((d.toNat : Int) != 47) = true := by simp; omega
                    have HS := Lib.hid (hstay (by
                      rintro ⟨_, h⟩
                      rw [HD2.out] at h
                      injection h with h
                      subst h
                      exact d47 rfl))
                    clear hblank hstay h9 h10 h13 h32 hnb h47 hend d47
                    go_wp2
                    go_ret
                    rw [HS.out]
                    exact ⟨rfl, rfl⟩
              · have n47 : ((c.toNat : Int) != 47) = true := by simp; omega
                have HS := Lib.hid (hstay (fun h => h47 h.1))
                clear hblank hstay h9 h10 h13 h32 hnb h47
                go_wp2
                go_ret
                rw [HS.out]
                exact ⟨rfl, rfl⟩
    · have hi : ¬ (m : Int) < (s.size : Int) := by omega
      have HS := Lib.hid (show skipAt s k = m from skipAt_of (by
        rw [← HE.out, List.drop_eq_nil_of_le (by rw [len_size]; omega)]
        exact Lx.skip_end _) hm)
      go_wp2
      go_ret
      rw [HS.out]
      exact ⟨rfl, rfl⟩

end Go.Proofs.YtbhdkkkaeabkhaaGreatDoor

namespace Go.Proofs.YtbhdkkkaeabkhaaGreatDoor
open Go.RowKit Go.Shelf
set_option linter.unusedSimpArgs false
set_option linter.unusedVariables false

/-- Do two tokens differ? -/
def tokDiff (p k n p' k' n' : Int) (s s' : ByteArray) : Bool := !(p == p' && (k == k' && (s.toList == s'.toList && n == n')))
theorem tokDiff_eq (x t : Lx.Tok) : tokDiff x.pos x.kind x.n t.pos t.kind t.n ⟨x.s.toArray⟩ ⟨t.s.toArray⟩ = !(x == t) := by
  unfold tokDiff
  rw [tokBeq x t]
theorem tokNe (w : World) (p k n p' k' n' : Int) (s s' : ByteArray) :
    (binOp .neq 26 (.agg #[.int .i64 p, .int .i64 k, .string s, .int .i64 n]) (.agg #[.int .i64 p', .int .i64 k', .string s', .int .i64 n'])).run Tryz.prog w = .ok (.bool (tokDiff p k n p' k' n' s s')) w := by
  have h1 : Tryz.prog.underlying 26 = some (.struct (Tryz.prog.fieldsOf 26)) := by kernel_rfl
  have h2 : Tryz.prog.stoodInHeld 26 = false := by kernel_rfl
  rw [run_neq_struct, run_equalIn_agg _ _ _ _ _ h1 h2]
  unfold tokDiff
  simp [go_sem]
  by_cases a : p = p'
  · by_cases b : k = k'
    · by_cases c : s.toList = s'.toList
      · by_cases d : n = n' <;> simp [a, b, c, d]
      · simp [a, b, c]
    · simp [a, b]
  · simp [a]
attribute [local go_sem high] tokNe

theorem ToksIn.below {w w' : World} {v : Value} {ts : List Lx.Tok} (h : ToksIn w v ts) (hb : Below w.heap.size w w') : ToksIn w' v ts := by
  rcases h with h | ⟨g, c, cur, fr, h1, h2, h3⟩
  · exact .inl h
  · exact .inr ⟨g, c, cur, fr, h1, (hb.block g (lt_of_block h2)).trans h2, h3⟩
theorem ToksIn.slice {w : World} {v : Value} {ts : List Lx.Tok} (h : ToksIn w v ts) : ∃ a c, v = .slice a ts.length c := by
  rcases h with ⟨rfl, a, c, rfl⟩ | ⟨g, c, cur, fr, rfl, _⟩
  · exact ⟨a, c, rfl⟩
  · exact ⟨_, c, rfl⟩
theorem ToksIn.at {w : World} {ts : List Lx.Tok} {a : Option Addr} {c m : Nat} (h : ToksIn w (.slice a ts.length c) ts) (hm : m < ts.length) : ∃ g cur fr, a = some ⟨g, 0, none⟩ ∧ w.heap[g]? = some (.cells cur 26 fr) ∧ cur.toList.take (ts.length * 4) = ts.flatMap cellsT := by
  rcases h with ⟨h, _⟩ | ⟨g, c, cur, fr, h, h1, h2⟩
  · rw [h] at hm; simp at hm
  · injection h with h _ _; exact ⟨g, cur, fr, h, h1, h2⟩
theorem Below.drewN {B : Nat} {w W : World} (h : Below B w W) (n : Nat) : Below B w (W.drewN n) := ⟨h.os, h.tape, h.output, h.size, h.block⟩
theorem take_step {α : Type} {ts us : List α} {m : Nat} (h : ts.take m = us.take m) (h1 : m < ts.length) (h2 : m < us.length) (e : ts[m] = us[m]) : ts.take (m + 1) = us.take (m + 1) := by
  rw [List.take_succ_eq_append_getElem h1, List.take_succ_eq_append_getElem h2, h, e]

set_option maxHeartbeats 4000000 in
set_option maxRecDepth 100000 in
theorem lawSameTok (ts us : List Lx.Tok) (v u : Value) (w : World) (hv : ToksIn w v ts) (hu : ToksIn w u us) (hl : ts.length ≤ 1000000000) (hl2 : us.length ≤ 1000000000) :
    Calls Tryz.prog 25 #[v, u] w fun e w' => e = .returned (.bool (decide (ts = us))) ∧ Below w.heap.size w w' := by
  obtain ⟨a0, c0, rfl⟩ := hv.slice
  obtain ⟨b0, d0, rfl⟩ := hu.slice
  have HV := Lib.hid hv
  have HU := Lib.hid hu
  clear hv hu
  by_cases hlen : ts.length = us.length
  · have hb : ((ts.length : Int) != (us.length : Int)) = false := by simp [hlen]
    have HL := Lib.hid hlen
    clear hlen
    go_enter Tryz.func25, Tryz.ntmps25
    go_wp2
    go_loopg [5] (ts.length) (fun n v wr => ∃ (m : Nat), n = ts.length - m ∧ v = .int .i64 (m : Int) ∧ m ≤ ts.length ∧ ts.take m = us.take m ∧ Below w.heap.size w wr)
    case atStart => exact ⟨0, rfl, rfl, Nat.zero_le _, by simp, Below.refl _ _⟩
    case round =>
      obtain ⟨m, hn, rfl, hm, he, hbl⟩ := hrel
      have HN := Lib.hid hn
      have HE := Lib.hid he
      clear hn he
      by_cases hlt : m < ts.length
      · have hlt2 : m < us.length := by rw [← HL.out]; exact hlt
        have hi : (m : Int) < (ts.length : Int) := by omega
        have hi2 : (m : Int) < (us.length : Int) := by omega
        have hi0 : (0 : Int) ≤ (m : Int) := by omega
        have hmi : (m : Int) ≤ 1000000000 := by omega
        obtain ⟨g, cur, fr, rfl, hgb, hcur⟩ := HV.out.at hlt
        obtain ⟨g2, cur2, fr2, rfl, hgb2, hcur2⟩ := HU.out.at hlt2
        have hgb' := (hbl.block g (lt_of_block hgb)).trans hgb
        have hgb2' := (hbl.block g2 (lt_of_block hgb2)).trans hgb2
        obtain ⟨t0, t1, t2, t3⟩ := toks_at hgb' hcur hlt
        obtain ⟨u0, u1, u2, u3⟩ := toks_at hgb2' hcur2 hlt2
        have hgl := lt_of_block hgb'
        have hgl2 := lt_of_block hgb2'
        obtain ⟨t, ht⟩ : ∃ t, ts[m]'hlt = t := ⟨_, rfl⟩
        obtain ⟨x, hx⟩ : ∃ x, us[m]'hlt2 = x := ⟨_, rfl⟩
        rw [ht] at t0 t1 t2 t3
        rw [hx] at u0 u1 u2 u3
        have hbq := tokDiff_eq t x
        have HT := Lib.hid ht
        have HX := Lib.hid hx
        clear ht hx hgb hgb' hgb2 hgb2'
        cases hq : (t == x) with
        | true =>
          rw [hq] at hbq
          rw [show (!true) = false from rfl] at hbq
          have htx : t = x := by simpa using hq
          have HS := Lib.hid (take_step HE.out hlt hlt2 (by rw [HT.out, HX.out, htx]))
          clear hq htx
          go_wp2
          go_quiet (fail)
          go_wp2
          go_roundg (ts.length - (m + 1))
          case measure => have := HN.out; omega
          case rel => exact ⟨m + 1, rfl, by simp, hlt, HS.out, Below.drewN hbl _⟩
        | false =>
          rw [hq] at hbq
          rw [show (!false) = true from rfl] at hbq
          have htx : t ≠ x := by simpa using hq
          have HS := Lib.hid (show decide (ts = us) = false by
            rw [decide_eq_false_iff_not]
            rintro rfl
            exact htx (HT.out.symm.trans HX.out))
          clear hq htx
          go_wp2
          go_quiet (fail)
          go_wp2
          go_ret
          rw [HS.out]
          exact ⟨rfl, Below.drewN hbl _⟩
      · have hi : ¬ (m : Int) < (ts.length : Int) := by omega
        have HS := Lib.hid (show decide (ts = us) = true by
          rw [decide_eq_true_eq]
          have h1 := HE.out
          rwa [List.take_of_length_le (by omega), List.take_of_length_le (by have := HL.out; omega)] at h1)
        go_wp2
        go_ret
        rw [HS.out]
        exact ⟨rfl, hbl⟩
  · have hb : ((ts.length : Int) != (us.length : Int)) = true := by simp; omega
    have HS := Lib.hid (show decide (ts = us) = false by
      rw [decide_eq_false_iff_not]
      rintro rfl
      exact hlen rfl)
    clear hlen
    go_enter Tryz.func25, Tryz.ntmps25
    go_wp2
    go_ret
    rw [HS.out]
    exact ⟨rfl, Below.refl _ _⟩

end Go.Proofs.YtbhdkkkaeabkhaaGreatDoor

namespace Go.Proofs.YtbhdkkkaeabkhaaGreatDoor
open Go.RowKit Go.Shelf
set_option linter.unusedSimpArgs false
set_option linter.unusedVariables false

/-- A row of texts, read from its block's head. -/
def StrsIn (w : World) (v : Value) (l : List Lx.Bytes) : Prop :=
  ∃ g c cur fr, v = .slice (some ⟨g, 0, none⟩) l.length c ∧ w.heap[g]? = some (.cells cur 9 fr) ∧ cur.toList.take l.length = l.map (fun s => Value.string ⟨s.toArray⟩)
theorem StrsIn.below {w w' : World} {v : Value} {ts : List Lx.Bytes} (h : StrsIn w v ts) (hb : Below w.heap.size w w') : StrsIn w' v ts := by
  obtain ⟨g, c, cur, fr, h1, h2, h3⟩ := h
  exact ⟨g, c, cur, fr, h1, (hb.block g (lt_of_block h2)).trans h2, h3⟩
theorem strs_at {w : World} {ts : List Lx.Bytes} {g m : Nat} {cur : Array Value} {fr : Nat × Nat} (hg : w.heap[g]? = some (.cells cur 9 fr)) (hc : cur.toList.take ts.length = ts.map (fun s => Value.string ⟨s.toArray⟩)) (h : m < ts.length) :
    w.cell? ⟨g, m, none⟩ = some (.string ⟨(ts[m]'h).toArray⟩) := by
  rw [cell_of hg, ← Array.getElem?_toList, ← List.getElem?_take_of_lt (l := cur.toList) h, hc, List.getElem?_map, List.getElem?_eq_getElem h]
  rfl
theorem refWords (w : World) : Calls Tryz.prog 21 #[] w fun e w' =>
    e = .returned (.slice (some ⟨w.heap.size, 0, none⟩) 25 25) ∧ w' = w.alloc (.cells wordCells 9) := by
  go_enter Tryz.func21, Tryz.ntmps21
  go_wp2
  go_ret
  exact ⟨rfl, rfl⟩
theorem strsWords (w : World) : StrsIn (w.alloc (.cells wordCells 9)) (.slice (some ⟨w.heap.size, 0, none⟩) 25 25) Lx.words :=
  ⟨w.heap.size, 25, wordCells, (0, 0), rfl, heap_alloc_new w _, rfl⟩

set_option maxHeartbeats 4000000 in
theorem lawSameStr (ts us : List Lx.Bytes) (v u : Value) (w : World) (hv : StrsIn w v ts) (hu : StrsIn w u us) (hl : ts.length ≤ 1000000000) (hl2 : us.length ≤ 1000000000) :
    Calls Tryz.prog 19 #[v, u] w fun e w' => e = .returned (.bool (decide (ts = us))) ∧ Below w.heap.size w w' := by
  obtain ⟨g, c0, cur, fr, rfl, hgb, hcur⟩ := hv
  obtain ⟨g2, d0, cur2, fr2, rfl, hgb2, hcur2⟩ := hu
  have HA := Lib.hid hgb
  have HB := Lib.hid hgb2
  have HC := Lib.hid hcur
  have HD := Lib.hid hcur2
  clear hgb hgb2 hcur hcur2
  by_cases hlen : ts.length = us.length
  · have hb : ((ts.length : Int) != (us.length : Int)) = false := by simp [hlen]
    have HL := Lib.hid hlen
    clear hlen
    go_enter Tryz.func19, Tryz.ntmps19
    go_wp2
    go_loopg [5] (ts.length) (fun n v wr => ∃ (m : Nat), n = ts.length - m ∧ v = .int .i64 (m : Int) ∧ m ≤ ts.length ∧ ts.take m = us.take m ∧ Below w.heap.size w wr)
    case atStart => exact ⟨0, rfl, rfl, Nat.zero_le _, by simp, Below.refl _ _⟩
    case round =>
      obtain ⟨m, hn, rfl, hm, he, hbl⟩ := hrel
      have HN := Lib.hid hn
      have HE := Lib.hid he
      clear hn he
      by_cases hlt : m < ts.length
      · have hlt2 : m < us.length := by rw [← HL.out]; exact hlt
        have hi : (m : Int) < (ts.length : Int) := by omega
        have hi2 : (m : Int) < (us.length : Int) := by omega
        have hi0 : (0 : Int) ≤ (m : Int) := by omega
        have hmi : (m : Int) ≤ 1000000000 := by omega
        have hgb' := (hbl.block g (lt_of_block HA.out)).trans HA.out
        have hgb2' := (hbl.block g2 (lt_of_block HB.out)).trans HB.out
        have t0 := strs_at hgb' HC.out hlt
        have u0 := strs_at hgb2' HD.out hlt2
        have hgl := lt_of_block hgb'
        have hgl2 := lt_of_block hgb2'
        obtain ⟨t, ht⟩ : ∃ t, ts[m]'hlt = t := ⟨_, rfl⟩
        obtain ⟨x, hx⟩ : ∃ x, us[m]'hlt2 = x := ⟨_, rfl⟩
        rw [ht] at t0
        rw [hx] at u0
        have HT := Lib.hid ht
        have HX := Lib.hid hx
        clear ht hx hgb' hgb2'
        cases hq : (t == x) with
        | true =>
          have htx : t = x := by simpa using hq
          have HS := Lib.hid (take_step HE.out hlt hlt2 (by rw [HT.out, HX.out, htx]))
          clear htx
          go_wp2
          go_quiet (fail)
          go_wp2
          go_roundg (ts.length - (m + 1))
          case measure => have := HN.out; omega
          case rel => exact ⟨m + 1, rfl, by simp, hlt, HS.out, Below.drewN hbl _⟩
        | false =>
          have htx : t ≠ x := by simpa using hq
          have HS := Lib.hid (show decide (ts = us) = false by
            rw [decide_eq_false_iff_not]
            rintro rfl
            exact htx (HT.out.symm.trans HX.out))
          clear htx
          go_wp2
          go_quiet (fail)
          go_wp2
          go_ret
          rw [HS.out]
          exact ⟨rfl, Below.drewN hbl _⟩
      · have hi : ¬ (m : Int) < (ts.length : Int) := by omega
        have HS := Lib.hid (show decide (ts = us) = true by
          rw [decide_eq_true_eq]
          have h1 := HE.out
          rwa [List.take_of_length_le (by omega), List.take_of_length_le (by have := HL.out; omega)] at h1)
        go_wp2
        go_ret
        rw [HS.out]
        exact ⟨rfl, hbl⟩
  · have hb : ((ts.length : Int) != (us.length : Int)) = true := by simp; omega
    have HS := Lib.hid (show decide (ts = us) = false by
      rw [decide_eq_false_iff_not]
      rintro rfl
      exact hlen rfl)
    clear hlen
    go_enter Tryz.func19, Tryz.ntmps19
    go_wp2
    go_ret
    rw [HS.out]
    exact ⟨rfl, Below.refl _ _⟩

end Go.Proofs.YtbhdkkkaeabkhaaGreatDoor

namespace Go.Proofs.YtbhdkkkaeabkhaaGreatDoor
open Go.RowKit
set_option linter.unusedSimpArgs false
set_option linter.unusedVariables false

/-- A Cut as a value. -/
def cutV (p : Nat) : Lx.Res → Value
  | .ok t n => .agg #[.int .i64 t.pos, .int .i64 t.kind, .string ⟨t.s.toArray⟩, .int .i64 t.n, .int .i64 ((p + n : Nat) : Int), .int .i64 0, .int .i64 0]
  | .bad y x => .agg #[.int .i64 0, .int .i64 0, .string ⟨#[]⟩, .int .i64 0, .int .i64 0, .int .i64 (y : Nat), .int .i64 (x : Nat)]

theorem refWrong (y x : Int) (w : World) : Calls Tryz.prog 79 #[.int .i64 y, .int .i64 x] w fun e w' => e = .returned (.agg #[.int .i64 0, .int .i64 0, .string ⟨#[]⟩, .int .i64 0, .int .i64 0, .int .i64 y, .int .i64 x]) ∧ Below w.heap.size w w' := by
  go_enter Tryz.func79, Tryz.ntmps79
  go_wp2
  refine bodyPost_ret (v := .agg #[.int .i64 0, .int .i64 0, .string ⟨#[]⟩, .int .i64 0, .int .i64 0, .int .i64 y, .int .i64 x]) (by simp [results, Tryz.results79, go_sem]) rfl ?_
  exact ⟨rfl, grown_below (World.grownBy_alloc _ _ _)⟩

def sgs : List Lx.Bytes := [[61, 61], [40], [41], [123], [125], [59], [58], [44], [46], [61], [60], [43], [45], [42]]
def sgCells : Array Value := (sgs.map fun s => Value.string ⟨s.toArray⟩).toArray
theorem sgCells_at (m : Nat) (h : m < 14) : sgCells[m]? = some (.string ⟨(sgs.getD m []).toArray⟩) := by
  have hl : sgs.length = 14 := rfl
  unfold sgCells
  rw [List.getElem?_toArray, List.getElem?_map, List.getD_eq_getElem?_getD, List.getElem?_eq_getElem (by omega)]
  rfl
theorem refSigns (w : World) : Calls Tryz.prog 75 #[] w fun e w' => e = .returned (.slice (some ⟨w.heap.size, 0, none⟩) 14 14) ∧ w' = w.alloc (.cells sgCells 9) := by
  go_enter Tryz.func75, Tryz.ntmps75
  go_wp2
  go_ret
  exact ⟨rfl, rfl⟩

/-- Is it one of the words? -/
def isWord (l : Lx.Bytes) : Bool := Lx.words.contains l
set_option maxHeartbeats 4000000 in
theorem refWord (s : ByteArray) (w : World) : Calls Tryz.prog 96 #[.string s] w fun e w' => e = .returned (.bool (isWord s.data.toList)) ∧ Below w.heap.size w w' := by
  go_enter Tryz.func96, Tryz.ntmps96
  go_upto_region 2 with (go_at_call 21; refine (refWords _).mono ?_; rintro e W1 ⟨rfl, hWe⟩; rw [hWe]; clear hWe)
  have hblk := heap_alloc_new w (.cells wordCells 9)
  have hb := grown_below (World.grownBy_alloc w (.cells wordCells 9) none)
  obtain ⟨W2, hW2⟩ : ∃ W2, w.alloc (.cells wordCells 9) = W2 := ⟨_, rfl⟩
  rw [hW2] at hblk hb ⊢
  have HW := Lib.hid hblk
  have hgl := lt_of_block hblk
  clear hblk hW2
  go_wp2_with fail
  go_loopg [4] 25 (fun n v wr => ∃ (m : Nat), n = 25 - m ∧ v = .int .i64 (m : Int) ∧ m ≤ 25 ∧ wr = W2 ∧ (Lx.words.take m).contains s.data.toList = false)
  case atStart => exact ⟨0, rfl, rfl, Nat.zero_le _, rfl, rfl⟩
  case round =>
    obtain ⟨m, hn, rfl, hm, rfl, hc⟩ := hrel
    have HN := Lib.hid hn
    have HC := Lib.hid hc
    clear hn hc
    by_cases hlt : m < 25
    · have hi2 : (m : Int) < 25 := by omega
      have hi0 : (0 : Int) ≤ (m : Int) := by omega
      have t0 := (cell_of HW.out m).trans (words_at m hlt)
      have hgr := words_grow m hlt s.data.toList
      rw [HC.out, Bool.false_or] at hgr
      obtain ⟨x, hx⟩ : ∃ x, Lx.words.getD m [] = x := ⟨_, rfl⟩
      have hmem : x ∈ Lx.words := by
        rw [← hx, List.getD_eq_getElem?_getD, List.getElem?_eq_getElem (show m < Lx.words.length from hlt)]
        exact List.getElem_mem _
      rw [hx] at t0 hgr
      have hcmp : (x == s.toList) = (x == s.data.toList) := by rw [ByteArray.toList_eq]
      cases hq : (x == s.data.toList) with
      | true =>
        rw [hq] at hcmp
        have HR := Lib.hid (show isWord s.data.toList = true by
          unfold isWord
          rw [List.contains_iff_mem, ← show x = s.data.toList by simpa using hq]
          exact hmem)
        clear hgr hx hq hmem
        go_wp2
        go_ret
        rw [HR.out]
        exact ⟨rfl, hb⟩
      | false =>
        rw [hq] at hcmp hgr
        have HG := Lib.hid hgr
        clear hgr hx hq hmem
        go_wp2
        go_roundg (25 - (m + 1))
        case measure => have := HN.out; omega
        case rel => exact ⟨m + 1, rfl, by simp, hlt, rfl, HG.out⟩
    · have hi2 : ¬ (m : Int) < 25 := by omega
      have hme : m = 25 := by omega
      have HR := Lib.hid (show isWord s.data.toList = false by have := HC.out; rw [hme] at this; exact this)
      go_wp2
      go_ret
      rw [HR.out]
      exact ⟨rfl, hb⟩

def firsts : Lx.Bytes := [61, 40, 41, 123, 125, 59, 58, 44, 46, 61, 60, 43, 45, 42]
theorem firsts_eq (b : UInt8) : firsts.contains b = Lx.signs.contains b := by
  have h1 : ∀ x ∈ firsts, x ∈ Lx.signs := by decide
  have h2 : ∀ x ∈ Lx.signs, x ∈ firsts := by decide
  rw [Bool.eq_iff_iff, List.contains_iff_mem, List.contains_iff_mem]
  exact ⟨h1 b, h2 b⟩
theorem sg_first (m : Nat) (h : m < 14) : ∃ (x : Lx.Bytes), sgs.getD m [] = firsts.getD m 0 :: x := by
  have key : ((List.range 14).all fun m => (sgs.getD m []).head? == some (firsts.getD m 0)) = true := by decide
  have := List.all_eq_true.1 key m (List.mem_range.2 h)
  cases hs : sgs.getD m [] with
  | nil => rw [hs] at this; simp at this
  | cons a x =>
    rw [hs] at this
    have : a = firsts.getD m 0 := by simpa using this
    exact ⟨x, by rw [this]⟩
theorem contains_step (l : Lx.Bytes) (m : Nat) (h : m < l.length) (b : UInt8) : (l.take (m + 1)).contains b = ((l.take m).contains b || (l.getD m 0 == b)) := by
  rw [List.take_succ_eq_append_getElem h, List.getD_eq_getElem?_getD, List.getElem?_eq_getElem h, Bool.eq_iff_iff]
  simp only [List.contains_iff_mem, List.mem_append, List.mem_singleton, Bool.or_eq_true, beq_iff_eq, Option.getD_some]
  exact ⟨fun h => h.imp id Eq.symm, fun h => h.imp id Eq.symm⟩

set_option maxRecDepth 100000 in
set_option maxHeartbeats 4000000 in
theorem refBegins (b : UInt8) (w : World) : Calls Tryz.prog 51 #[.int .u8 (b.toNat : Int)] w fun e w' => e = .returned (.bool (Lx.begins b)) ∧ Below w.heap.size w w' := by
  have hw : Lx.begins b = (Lx.small b || Lx.great b || Lx.digit b || (b.toNat == 34) || firsts.contains b) := by
    rw [firsts_eq]; rfl
  by_cases hfirst : (Lx.small b || Lx.great b || Lx.digit b || (b.toNat == 34)) = true
  · have HW := Lib.hid (show Lx.begins b = true by rw [hw, hfirst]; rfl)
    have h4 : Lx.small b = true ∨ (Lx.small b = false ∧ Lx.great b = true) ∨ (Lx.small b = false ∧ Lx.great b = false ∧ Lx.digit b = true) ∨ (Lx.small b = false ∧ Lx.great b = false ∧ Lx.digit b = false ∧ ((b.toNat : Int) == 34) = true) := by
      simp only [Bool.or_eq_true, beq_iff_eq] at hfirst ⊢
      cases hs : Lx.small b <;> cases hg : Lx.great b <;> cases hd : Lx.digit b <;> simp [hs, hg, hd] at hfirst ⊢ <;> omega
    clear hw hfirst
    rcases h4 with hs | ⟨hs, hg⟩ | ⟨hs, hg, hd⟩ | ⟨hs, hg, hd, b34⟩
    all_goals
      go_enter Tryz.func51, Tryz.ntmps51
      go_wp2_with (first
        | (go_at_call 72; refine (refSmall _ _).mono ?_; rw [hs]; rintro e w' ⟨rfl, rfl⟩)
        | (go_at_call 73; refine (refGreat _ _).mono ?_; rw [hg]; rintro e w' ⟨rfl, rfl⟩)
        | (go_at_call 74; refine (refDigit _ _).mono ?_; rw [hd]; rintro e w' ⟨rfl, rfl⟩))
      go_ret
      rw [HW.out]
      exact ⟨rfl, Below.refl _ _⟩
  · have hf2 : (Lx.small b || Lx.great b || Lx.digit b || (b.toNat == 34)) = false := by simpa using hfirst
    have HW := Lib.hid (show Lx.begins b = firsts.contains b by rw [hw, hf2]; rfl)
    simp only [Bool.or_eq_false_iff] at hf2
    obtain ⟨⟨⟨hs, hg⟩, hd⟩, h34⟩ := hf2
    have b34 : ((b.toNat : Int) == 34) = false := by simp at h34 ⊢; omega
    clear hw hfirst h34
    go_enter Tryz.func51, Tryz.ntmps51
    go_upto_region 4 with (first
        | (go_at_call 72; refine (refSmall _ _).mono ?_; rw [hs]; rintro e w' ⟨rfl, rfl⟩)
        | (go_at_call 73; refine (refGreat _ _).mono ?_; rw [hg]; rintro e w' ⟨rfl, rfl⟩)
        | (go_at_call 74; refine (refDigit _ _).mono ?_; rw [hd]; rintro e w' ⟨rfl, rfl⟩)
        | (go_at_call 75; refine (refSigns _).mono ?_; rintro e W1 ⟨rfl, hWe⟩; rw [hWe]; clear hWe))
    have hblk := heap_alloc_new w (.cells sgCells 9)
    have hb := grown_below (World.grownBy_alloc w (.cells sgCells 9) none)
    obtain ⟨W2, hW2⟩ : ∃ W2, w.alloc (.cells sgCells 9) = W2 := ⟨_, rfl⟩
    rw [hW2] at hblk hb ⊢
    have HB := Lib.hid hblk
    have hgl := lt_of_block hblk
    clear hblk hW2
    go_wp2_with fail
    go_loopg [4] 14 (fun n v wr => ∃ (m : Nat), n = 14 - m ∧ v = .int .i64 (m : Int) ∧ m ≤ 14 ∧ wr = W2 ∧ (firsts.take m).contains b = false)
    case atStart => exact ⟨0, rfl, rfl, Nat.zero_le _, rfl, rfl⟩
    case round =>
      obtain ⟨m, hn, rfl, hm, rfl, hc⟩ := hrel
      have HN := Lib.hid hn
      have HC := Lib.hid hc
      clear hn hc
      by_cases hlt : m < 14
      · have hi2 : (m : Int) < 14 := by omega
        have hi0 : (0 : Int) ≤ (m : Int) := by omega
        have t0 := (cell_of HB.out m).trans (sgCells_at m hlt)
        obtain ⟨x, hx⟩ := sg_first m hlt
        have hst := contains_step firsts m hlt b
        rw [HC.out, Bool.false_or] at hst
        obtain ⟨f, hf⟩ : ∃ f, firsts.getD m 0 = f := ⟨_, rfl⟩
        rw [hx, hf] at t0
        rw [hf] at hst
        obtain ⟨S, hS⟩ : ∃ S : ByteArray, (⟨(f :: x).toArray⟩ : ByteArray) = S := ⟨_, rfl⟩
        rw [hS] at t0
        have hS0 : 0 < S.size := by rw [← hS]; show 0 < (f :: x).length; simp
        have hSi : (0 : Int) < (S.size : Int) := by omega
        have hSf : S[0]'hS0 = f := by subst hS; rfl
        have hcmp : ((f.toNat : Int) == (b.toNat : Int)) = (f == b) := by
          rw [Bool.eq_iff_iff]
          simp only [beq_iff_eq]
          exact ⟨fun h => UInt8.toNat_inj.1 (by omega), fun h => by rw [h]⟩
        have hmemf : f ∈ firsts := by
          rw [← hf, List.getD_eq_getElem?_getD, List.getElem?_eq_getElem (show m < firsts.length from hlt)]
          exact List.getElem_mem _
        cases hq : (f == b) with
        | true =>
          rw [hq] at hcmp
          have HR := Lib.hid (show firsts.contains b = true by
            rw [List.contains_iff_mem, ← show f = b by simpa using hq]
            exact hmemf)
          clear hst hx hf hq hmemf hS
          go_wp2
          go_ret
          rw [HW.out, HR.out]
          exact ⟨rfl, hb⟩
        | false =>
          rw [hq] at hcmp hst
          have HG := Lib.hid hst
          clear hst hx hf hq hmemf hS
          go_wp2
          go_roundg (14 - (m + 1))
          case measure => have := HN.out; omega
          case rel => exact ⟨m + 1, rfl, by simp, hlt, rfl, HG.out⟩
      · have hi2 : ¬ (m : Int) < 14 := by omega
        have hme : m = 14 := by omega
        have HR := Lib.hid (show firsts.contains b = false by have := HC.out; rw [hme] at this; exact this)
        go_wp2
        go_ret
        rw [HW.out, HR.out]
        exact ⟨rfl, hb⟩

end Go.Proofs.YtbhdkkkaeabkhaaGreatDoor
