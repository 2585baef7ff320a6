/-
  The end of every law of this chapter: true, and the arguments as they were.
  The walk of Join.
  What a law's arguments are, out of the row's condition.
  coilbook.Same at tokens and at texts.
  coillaw1's small helpers.
  coillaw1.says: is a text cut into these?
  coilbook.Same at texts; the two lists of words.
-/
import Derived.Test.YtbhdkkkaeabkhaaGreatDoorM12
import Derived.Test.YtbhdkkkaeabkhaaGreatDoorM9
import Derived.ChangeMaps5
import Derived.ChangeSame
import Derived.OpenShut
import Derived.ProofKit
import Derived.Test.YtbhdkkkaeabkhaaGreatDoorM11
namespace Go.Proofs.YtbhdkkkaeabkhaaGreatDoor
open Go Go.ChangeShapes Go.WideShapes Go.ChangeAt Go.RowKit
set_option linter.unusedSimpArgs false
set_option linter.unusedVariables false

set_option maxRecDepth 100000 in
theorem laidOutK : laidOutB Tryz.prog = true := by kernel_rfl

theorem trodAll_below {H : Type} {enc : TypeId × Value → H} {P : Program} (hl : laidOutB P = true) {W W' : World} (hb : Below W.heap.size W W') : ∀ {ts : List TypeId} {vs : List Value} {ds : List (DataW H)} {p : List MemPlace},
    (ts.all fun t => P.readableRec t && decide (t < P.types.size)) = true → DataW.TrodAll enc P W 0 (fun _ => true) true ts vs ds p → (∀ x ∈ p, x.block < W.heap.size) →
    DataW.TrodAll enc P W' 0 (fun b => decide (b < W.heap.size)) true ts vs ds p := by
  intro ts
  induction ts with
  | nil =>
    intro vs ds p _ h _
    obtain ⟨rfl, rfl, rfl⟩ := trodAll_nil h
    exact trodAll_mk0
  | cons t ts ih =>
    intro vs ds p ht h hlt
    obtain ⟨v, vs', d, ds', p1, p2, rfl, rfl, rfl, h1, h2⟩ := trodAll_cons h
    rw [List.all_cons, Bool.and_eq_true, Bool.and_eq_true] at ht
    exact ⟨p1, p2, Below.trod hl ht.1.1 (of_decide_eq_true ht.1.2) h1 hb (fun x hx => hlt x (by simp [hx])), ih ht.2 h2 (fun x hx => hlt x (by simp [hx])), rfl⟩

/-- The law's end: true, and each argument reads as it did. -/
theorem finish {H : Type} {enc : TypeId × Value → H} {f : Func} {s : ChangeSpec} {W W' : World} {args : Array Value} {ds : List (DataW H)} {before : List MemPlace}
    (hv : s.vars = []) (hr : f.resultTypes = #[4]) (hps : (f.params.toList.all fun t => Tryz.prog.readableRec t && decide (t < Tryz.prog.types.size)) = true)
    (hfn : s.fn H ds = { results := [.lit (.bool true)], args := ds })
    (hW : DataW.Whole enc Tryz.prog f.params.toList s.vars false W args.toList ds [] before) (hb : Below W.heap.size W W') :
    s.post enc Tryz.prog f false true false false W args (.bool true) W' := by
  have hW' := hW
  obtain ⟨p, q, hA, hV, rfl, hz, hn⟩ := hW
  rw [hv] at hV
  obtain rfl : q = [] := hV
  have hlt : ∀ x ∈ p, x.block < W.heap.size := fun x hx => by simpa using hW'.lt x (by simpa using hx)
  have e : s.fn H (ds ++ []) = { results := [.lit (.bool true)], args := ds } := by rw [List.append_nil]; exact hfn
  refine ⟨ds, [], _, [], p, [], hW', ?_, ?_, ?_, hb.frame _, fun h => by cases h⟩
  · rw [e, hr]; exact trodAll_mk1 (shut_bool Tryz.underlying4 true)
  · rw [e]; exact trodAll_below laidOutK hb hps hA hlt
  · rw [e, hv]; rfl

end Go.Proofs.YtbhdkkkaeabkhaaGreatDoor

namespace Go.Proofs.YtbhdkkkaeabkhaaGreatDoor
open Go.RowKit Go.Shelf
set_option linter.unusedSimpArgs false
set_option linter.unusedVariables false

namespace Lx
def joinStep (i : Nat) (b s : Bytes) : Bytes := if 65536 < b.length then b else (if 0 < i then b ++ [32] else b) ++ s
def joinFrom : Nat → Bytes → List Tok → Option Bytes
  | _, b, [] => some b
  | i, b, t :: l => if (written t).2 then joinFrom (i + 1) (joinStep i b (written t).1) l else none
def join (l : List Tok) : Bytes × Nat :=
  match joinFrom 0 [] l with
  | none => ([], 1)
  | some b => if 65536 < b.length then ([], 2) else if 4096 < l.length then ([], 3) else (b, 0)
theorem written_len (t : Tok) (hs : t.s.length ≤ 1000000000) (hn1 : t.n ≤ 9223372036854775807) : (written t).1.length ≤ 3000000000 := by
  have h : ∀ s, raw t = some s → s.length ≤ 3000000000 := by
    intro s h
    unfold raw at h
    split at h
    · injection h with h; subst h; omega
    · split at h
      · split at h
        · cases h
        · injection h with h; subst h
          rw [Lib.decDigits_length]
          have := nD_le 19 t.n.toNat (by omega)
          omega
      · split at h
        · injection h with h; subst h
          have := quoteIn_len t.s
          simp [quote]
          omega
        · cases h
  unfold written
  split
  · simp
  · simp
  · rename_i c l he
    split
    · exact h _ he
    · simp
end Lx

/-- A row of tokens, read from its block's head. -/
def ToksIn (w : World) (v : Value) (ts : List Lx.Tok) : Prop :=
  (ts = [] ∧ ∃ a c, v = .slice a 0 c) ∨ ∃ g c cur fr, v = .slice (some ⟨g, 0, none⟩) ts.length c ∧ w.heap[g]? = some (.cells cur 26 fr) ∧ cur.toList.take (ts.length * 4) = ts.flatMap cellsT
theorem flat_at (ts : List Lx.Tok) : ∀ (m : Nat) (h : m < ts.length) (q : Nat), q < 4 → (ts.flatMap cellsT)[m * 4 + q]? = (cellsT (ts[m]'h))[q]? := by
  induction ts with
  | nil => intro m h; simp at h
  | cons t ts ih =>
    intro m h q hq
    rw [List.flatMap_cons]
    cases m with
    | zero => rw [List.getElem?_append_left (by simp [cellsT]; omega)]; simp
    | succ m =>
      rw [List.getElem?_append_right (by simp [cellsT]; omega)]
      have e : (m + 1) * 4 + q - (cellsT t).length = m * 4 + q := by simp [cellsT]; omega
      rw [e, ih m (by simpa using h) q hq]
      rfl
theorem toks_at {w : World} {ts : List Lx.Tok} {g m : Nat} {cur : Array Value} {fr : Nat × Nat} (hg : w.heap[g]? = some (.cells cur 26 fr)) (hc : cur.toList.take (ts.length * 4) = ts.flatMap cellsT) (h : m < ts.length) :
    w.cell? ⟨g, m * 4, none⟩ = some (.int .i64 (ts[m]'h).pos) ∧ w.cell? ⟨g, m * 4 + 1, none⟩ = some (.int .i64 (ts[m]'h).kind) ∧ w.cell? ⟨g, m * 4 + 2, none⟩ = some (.string ⟨(ts[m]'h).s.toArray⟩) ∧ w.cell? ⟨g, m * 4 + 3, none⟩ = some (.int .i64 (ts[m]'h).n) := by
  have e : ∀ q, q < 4 → w.cell? ⟨g, m * 4 + q, none⟩ = (cellsT (ts[m]'h))[q]? := by
    intro q hq
    rw [cell_of hg, ← Array.getElem?_toList, ← flat_at ts m h q hq, ← hc, List.getElem?_take_of_lt (by omega)]
  exact ⟨e 0 (by omega), e 1 (by omega), e 2 (by omega), e 3 (by omega)⟩
theorem Bld.kept {B b : Nat} {l : List UInt8} {w w' : World} (h : Bld B b l w) (hg : w.grownBy w' none) : Bld B b l w' := by
  have e : ∀ p, Lib.BuilderAt 86 5 B b p (Lib.byteCells l) w → Lib.BuilderAt 86 5 B b p (Lib.byteCells l) w' := by
    rintro p ⟨hB, v, hb, ho, hne⟩
    exact ⟨hB, v, (hg.block b (lt_of_block hb) (fun e => nomatch e)).trans hb, ho.kept hg (by cases v.ownBlock <;> simp), hne⟩
  exact h.imp (e _) (e _)

theorem bldLen (B b : Nat) (l : List UInt8) (w : World) (h : Bld B b l w) : Calls Tryz.prog 45 #[.pointer (some ⟨b, 0, none⟩)] w fun e w' => e = .returned (.int .i64 l.length) ∧ w' = w := by
  refine (Tryz.Builder_Len B b _ w h).mono ?_
  rintro e w' ⟨rfl, rfl⟩
  exact ⟨by rw [byteCells_length], rfl⟩

set_option maxHeartbeats 4000000 in
set_option maxRecDepth 100000 in
theorem lexJoin (ts : List Lx.Tok) (v : Value) (w : World) (hG : GS w) (hN : NG ≤ w.heap.size) (hv : ToksIn w v ts) (hl : ts.length ≤ 1000000000)
    (hts : ∀ t ∈ ts, t.s.length ≤ 1000000000 ∧ -9223372036854775808 ≤ t.n ∧ t.n ≤ 9223372036854775807) :
    Calls Tryz.prog 18 #[v] w fun e w' => e = .returned (.tuple #[.string ⟨(Lx.join ts).1.toArray⟩, .int .i64 (Lx.join ts).2]) ∧ Below w.heap.size w w' := by
  obtain ⟨a0, cp, rfl⟩ : ∃ a0 c, v = .slice a0 ts.length c := by
    rcases hv with ⟨rfl, a, c, rfl⟩ | ⟨g, c, cur, fr, rfl, _⟩
    · exact ⟨a, c, rfl⟩
    · exact ⟨_, c, rfl⟩
  have HV := Lib.hid hv
  clear hv
  go_enter Tryz.func18, Tryz.ntmps18
  have h0 : Bld w.heap.size w.heap.size [] (w.alloc (.cells #[.pointer none, .slice none 0 0] 86)) := Lib.fresh_isBuilder _ _ _
  have hb0 : Below w.heap.size w (w.alloc (.cells #[.pointer none, .slice none 0 0] 86)) := (Below.refl _ w).alloc (Nat.le_refl _) _
  have HJ : Hid (Lx.join ts = match Lx.joinFrom 0 [] ts with | none => ([], 1) | some b => if 65536 < b.length then ([], 2) else if 4096 < ts.length then ([], 3) else (b, 0)) := rfl
  go_wp2
  have H0 := Lib.hid h0
  have HB0 := Lib.hid hb0
  clear h0 hb0
  go_loopg [11] (ts.length) (fun n v wr => ∃ (m : Nat) (b : List UInt8), n = ts.length - m ∧ v = .int .i64 (m : Int) ∧ m ≤ ts.length ∧ Bld w.heap.size w.heap.size b wr ∧ Below w.heap.size w wr ∧ b.length ≤ 3000100000 ∧ Lx.joinFrom m b (ts.drop m) = Lx.joinFrom 0 [] ts)
  case atStart => exact ⟨0, [], rfl, rfl, Nat.zero_le _, H0.out, HB0.out, by simp, rfl⟩
  case round =>
    obtain ⟨m, b, hn, rfl, hm, hB, hb, hbl, he⟩ := hrel
    have HN := Lib.hid hn
    have HE := Lib.hid he
    clear hn he H0 HB0
    by_cases hlt : m < ts.length
    · have hi : (m : Int) < (ts.length : Int) := by omega
      have hi0 : (0 : Int) ≤ (m : Int) := by omega
      have hmi : (m : Int) ≤ 1000000000 := by omega
      obtain ⟨g, cur, fr, rfl, hgb, hcur⟩ : ∃ g cur fr, a0 = some ⟨g, 0, none⟩ ∧ w.heap[g]? = some (.cells cur 26 fr) ∧ cur.toList.take (ts.length * 4) = ts.flatMap cellsT := by
        rcases HV.out with ⟨h, _⟩ | ⟨g, c, cur, fr, h, h1, h2⟩
        · rw [h] at hlt; simp at hlt
        · injection h with h _ _; exact ⟨g, cur, fr, h, h1, h2⟩
      have hgl := lt_of_block hgb
      have hgb' := (hb.block g hgl).trans hgb
      obtain ⟨t0, t1, t2, t3⟩ := toks_at hgb' hcur hlt
      have hgl' := lt_of_block hgb'
      obtain ⟨t, ht⟩ : ∃ t, ts[m]'hlt = t := ⟨_, rfl⟩
      rw [ht] at t0 t1 t2 t3
      obtain ⟨ht1, ht2, ht3⟩ := hts t (by rw [← ht]; exact List.getElem_mem hlt)
      have HTM := Lib.hid (show ts.drop m = t :: ts.drop (m + 1) by rw [List.drop_eq_getElem_cons hlt, ht])
      clear ht hgb hgb'
      have hwr : Calls Tryz.prog 44 #[.agg #[.int .i64 t.pos, .int .i64 t.kind, .string ⟨t.s.toArray⟩, .int .i64 t.n]] (wr.alloc (.cells #[.int .i64 t.pos, .int .i64 t.kind, .string ⟨t.s.toArray⟩, .int .i64 t.n] 26)) fun e w' =>
          e = .returned (.tuple #[.string ⟨(Lx.written t).1.toArray⟩, .bool (Lx.written t).2]) ∧ (wr.alloc (.cells #[.int .i64 t.pos, .int .i64 t.kind, .string ⟨t.s.toArray⟩, .int .i64 t.n] 26)).grownBy w' none ∧ Below w.heap.size w w' ∧ Bld w.heap.size w.heap.size b w' :=
        (lexWritten t _ ((hG.below hb).alloc _) (by have := hb.size; simp; omega) ht1 ht2 ht3).mono fun e w' h => ⟨h.1, h.2, grown_below (((below_grown hb).trans (World.grownBy_alloc _ _ _)).trans h.2), (hB.kept (World.grownBy_alloc _ _ _)).kept h.2⟩
      have hwl := Lx.written_len t ht1 ht3
      obtain ⟨x, hx⟩ : ∃ x, (Lx.written t).1 = x := ⟨_, rfl⟩
      rw [hx] at hwr hwl
      have HXX := Lib.hid hx
      clear hx
      have hjf : Lx.joinFrom m b (ts.drop m) = if (Lx.written t).2 then Lx.joinFrom (m + 1) (Lx.joinStep m b x) (ts.drop (m + 1)) else none := by
        rw [HTM.out]; show (if (Lx.written t).2 then Lx.joinFrom (m + 1) (Lx.joinStep m b (Lx.written t).1) (ts.drop (m + 1)) else none) = _
        rw [HXX.out]
      have HJF := Lib.hid (HE.out.symm.trans hjf)
      clear hjf
      cases hok : (Lx.written t).2 with
      | false =>
        have HR := Lib.hid (show Lx.join ts = ([], 1) by rw [HJ.out, HJF.out, hok]; rfl)
        rw [hok] at hwr
        clear hok
        go_wp2_with (go_at_call 44; refine hwr.mono ?_; clear hwr; rintro e w5 ⟨rfl, hg5, hb5, hB5⟩; have hs5 := hb5.size)
        refine bodyPost_ret (results_tmp2 rfl _ _ _) rfl ?_
        rw [HR.out]
        exact ⟨rfl, hb5⟩
      | true =>
        have HR := Lib.hid (show Lx.joinFrom (m + 1) (Lx.joinStep m b x) (ts.drop (m + 1)) = Lx.joinFrom 0 [] ts by rw [HJF.out, hok]; rfl)
        rw [hok] at hwr
        clear hok
        by_cases hbig : 65536 < b.length
        · have hbi : (65536 : Int) < (b.length : Int) := by omega
          have hst : Lx.joinStep m b x = b := by unfold Lx.joinStep; rw [if_pos hbig]
          rw [hst] at HR
          clear hst
          go_wp2_with (first | (go_at_call 44; refine hwr.mono ?_; clear hwr; rintro e w5 ⟨rfl, hg5, hb5, hB5⟩; have hs5 := hb5.size) | (go_at_call 45; refine (bldLen _ _ _ _ hB5).mono ?_; rintro e w' ⟨rfl, rfl⟩))
          go_roundg (ts.length - (m + 1))
          case measure => have := HN.out; omega
          case rel => exact ⟨m + 1, b, rfl, by simp, hlt, hB5, hb5, hbl, HR.out⟩
        · have hbi : ¬ (65536 : Int) < (b.length : Int) := by omega
          by_cases hm0 : 0 < m
          · have hm0i : (0 : Int) < (m : Int) := by omega
            have hst : Lx.joinStep m b x = b ++ [32] ++ x := by unfold Lx.joinStep; rw [if_neg hbig, if_pos hm0]
            rw [hst] at HR
            clear hst
            go_wp2_with (first | (go_at_call 44; refine hwr.mono ?_; clear hwr; rintro e w5 ⟨rfl, hg5, hb5, hB5⟩; have hs5 := hb5.size) | (go_at_call 45; refine (bldLen _ _ _ _ hB5).mono ?_; rintro e w' ⟨rfl, rfl⟩) | (go_at_call 46; refine (bldByte w.heap.size w.heap.size b 32 _ hB5 (by omega) hs5).mono ?_; rintro e w6 ⟨rfl, h6, hb6⟩) | (go_at_call 47; refine (bldStr w.heap.size w.heap.size (b ++ [32]) ⟨x.toArray⟩ _ h6 (by show (b ++ [32]).length + x.length ≤ _; simp; omega) (by have := hb6.size; omega)).mono ?_; rintro e w7 ⟨rfl, h7, hb7⟩))
            go_roundg (ts.length - (m + 1))
            case measure => have := HN.out; omega
            case rel => exact ⟨m + 1, _, rfl, by simp, hlt, h7, (hb5.trans hb6).trans hb7, by show (b ++ [32] ++ x).length ≤ _; simp; omega, HR.out⟩
          · have hm0i : ¬ (0 : Int) < (m : Int) := by omega
            have hst : Lx.joinStep m b x = b ++ x := by unfold Lx.joinStep; rw [if_neg hbig, if_neg hm0]
            rw [hst] at HR
            clear hst
            go_wp2_with (first | (go_at_call 44; refine hwr.mono ?_; clear hwr; rintro e w5 ⟨rfl, hg5, hb5, hB5⟩; have hs5 := hb5.size) | (go_at_call 45; refine (bldLen _ _ _ _ hB5).mono ?_; rintro e w' ⟨rfl, rfl⟩) | (go_at_call 47; refine (bldStr w.heap.size w.heap.size b ⟨x.toArray⟩ _ hB5 (by show b.length + x.length ≤ _; omega) hs5).mono ?_; rintro e w7 ⟨rfl, h7, hb7⟩))
            go_roundg (ts.length - (m + 1))
            case measure => have := HN.out; omega
            case rel => exact ⟨m + 1, _, rfl, by simp, hlt, h7, hb5.trans hb7, by show (b ++ x).length ≤ _; simp; omega, HR.out⟩
    · have hme : m = ts.length := by omega
      have hi : ¬ (m : Int) < (ts.length : Int) := by omega
      have hjf : Lx.joinFrom 0 [] ts = some b := by
        rw [← HE.out, List.drop_eq_nil_of_le (by omega)]; rfl
      have HR := Lib.hid (show Lx.join ts = if 65536 < b.length then ([], 2) else if 4096 < ts.length then ([], 3) else (b, 0) by rw [HJ.out, hjf])
      clear hjf hme
      have hB5 := hB
      by_cases hbig : 65536 < b.length
      · have hbi : (65536 : Int) < (b.length : Int) := by omega
        have HR2 := Lib.hid (show Lx.join ts = ([], 2) by rw [HR.out, if_pos hbig])
        go_wp2_with (first | (go_at_call 45; refine (bldLen _ _ _ _ hB5).mono ?_; rintro e w' ⟨rfl, rfl⟩))
        refine bodyPost_ret (results_tmp2 rfl _ _ _) rfl ?_
        rw [HR2.out]
        exact ⟨rfl, hb⟩
      · have hbi : ¬ (65536 : Int) < (b.length : Int) := by omega
        by_cases hmany : 4096 < ts.length
        · have hmi : (4096 : Int) < (ts.length : Int) := by omega
          have HR2 := Lib.hid (show Lx.join ts = ([], 3) by rw [HR.out, if_neg hbig, if_pos hmany])
          go_wp2_with (first | (go_at_call 45; refine (bldLen _ _ _ _ hB5).mono ?_; rintro e w' ⟨rfl, rfl⟩))
          refine bodyPost_ret (results_tmp2 rfl _ _ _) rfl ?_
          rw [HR2.out]
          exact ⟨rfl, hb⟩
        · have hmi : ¬ (4096 : Int) < (ts.length : Int) := by omega
          have HR2 := Lib.hid (show Lx.join ts = (b, 0) by rw [HR.out, if_neg hbig, if_neg hmany])
          go_wp2_with (first | (go_at_call 45; refine (bldLen _ _ _ _ hB5).mono ?_; rintro e w' ⟨rfl, rfl⟩) | (go_at_call 48; refine (Tryz.Builder_String_any w.heap.size w.heap.size _ _ hB5 hb.size).mono ?_; rintro e w4 ⟨rfl, hb4⟩))
          refine bodyPost_ret (results_tmp2 rfl _ _ _) rfl ?_
          rw [HR2.out]
          exact ⟨rfl, hb.trans hb4⟩

end Go.Proofs.YtbhdkkkaeabkhaaGreatDoor

namespace Go.Proofs.YtbhdkkkaeabkhaaGreatDoor
open Go.ChangeShapes Go.WideShapes Go.ChangeAt Go.RowKit
set_option linter.unusedSimpArgs false
set_option linter.unusedVariables false

theorem int_bounds {n : Int} (h : (Lit.int .i64 n).wf = true) : -9223372036854775808 ≤ n ∧ n ≤ 9223372036854775807 := by
  simp only [Lit.wf, Bool.and_eq_true, decide_eq_true_eq] at h
  exact h

theorem list_of_all {α : Type} {P : Nat → α → Prop} : ∀ (n : Nat), (∀ i, i < n → ∃ x, P i x) → ∃ l : List α, l.length = n ∧ ∀ i (h : i < l.length), P i (l[i]'h)
  | 0, _ => ⟨[], rfl, fun i h => by simp at h⟩
  | n + 1, h => by
    obtain ⟨l, hl, hp⟩ := list_of_all n (fun i hi => h i (by omega))
    obtain ⟨x, hx⟩ := h n (by omega)
    refine ⟨l ++ [x], by simp [hl], fun i hi => ?_⟩
    by_cases hin : i < l.length
    · rw [List.getElem_append_left hin]; exact hp i hin
    · have : i = n := by simp at hi; omega
      subst this
      rw [List.getElem_append_right (by omega)]
      simpa [hl] using hx

/-- A token at a place of a row. -/
def TokAt (w : World) (b o : Nat) (t : Lx.Tok) : Prop :=
  w.cell? ⟨b, o, none⟩ = some (.int .i64 t.pos) ∧ w.cell? ⟨b, o + 1, none⟩ = some (.int .i64 t.kind) ∧ w.cell? ⟨b, o + 2, none⟩ = some (.string ⟨t.s.toArray⟩) ∧ w.cell? ⟨b, o + 3, none⟩ = some (.int .i64 t.n) ∧
    -9223372036854775808 ≤ t.n ∧ t.n ≤ 9223372036854775807
/-- A row of tokens that came in. -/
def ToksArg (w : World) (v : Value) (ts : List Lx.Tok) : Prop :=
  ∃ a c, v = .slice a ts.length c ∧ ∀ m (h : m < ts.length), ∃ b off, a = some ⟨b, off, none⟩ ∧ TokAt w b (off + m * 4) (ts[m]'h)

theorem fT0 : (Tryz.prog.fieldsOf 26)[0]?.map (fun f => (f.type, f.offset)) = some (24, 0) := by kernel_rfl
theorem fT1 : (Tryz.prog.fieldsOf 26)[1]?.map (fun f => (f.type, f.offset)) = some (3, 1) := by kernel_rfl
theorem fT2 : (Tryz.prog.fieldsOf 26)[2]?.map (fun f => (f.type, f.offset)) = some (9, 2) := by kernel_rfl
theorem fT3 : (Tryz.prog.fieldsOf 26)[3]?.map (fun f => (f.type, f.offset)) = some (3, 3) := by kernel_rfl
theorem fP0 : (Tryz.prog.fieldsOf 24)[0]?.map (fun f => (f.type, f.offset)) = some (3, 0) := by kernel_rfl
theorem uT : Tryz.prog.underlying 26 = some (.struct (Tryz.prog.fieldsOf 26)) := by kernel_rfl
theorem uP : Tryz.prog.underlying 24 = some (.struct (Tryz.prog.fieldsOf 24)) := by kernel_rfl
theorem cT : Tryz.prog.cellsOf 26 = 4 := by kernel_rfl
theorem cP : Tryz.prog.cellsOf 24 = 1 := by kernel_rfl
theorem cI : Tryz.prog.cellsOf 3 = 1 := by kernel_rfl
theorem cS : Tryz.prog.cellsOf 9 = 1 := by kernel_rfl

set_option maxRecDepth 100000 in
theorem tok_of_trod {H : Type} {enc : TypeId × Value → H} {w : World} {sp : Nat → Bool} {held : Bool} {fuel : Nat} {a b c d : Value} {x : DataW H × List MemPlace}
    (h : DataW.trod enc Tryz.prog w 0 sp held fuel 26 [a, b, c, d] = some x) :
    ∃ t : Lx.Tok, a = .int .i64 t.pos ∧ b = .int .i64 t.kind ∧ c = .string ⟨t.s.toArray⟩ ∧ d = .int .i64 t.n ∧ -9223372036854775808 ≤ t.n ∧ t.n ≤ 9223372036854775807 := by
  obtain ⟨xs, n, _, _, hl, hlen, hf⟩ := DataW.trod_struct uT h
  have step : ∀ (i : Nat) (ty off : Nat), (Tryz.prog.fieldsOf 26)[i]?.map (fun f => (f.type, f.offset)) = some (ty, off) → ∃ y, DataW.trod enc Tryz.prog w 0 sp held n ty (([a, b, c, d].drop off).take (Tryz.prog.cellsOf ty)) = some y := by
    intro i ty off hi
    obtain ⟨f, hfi, he⟩ := Option.map_eq_some_iff.1 hi
    injection he with e1 e2
    have := hf i f hfi
    rw [e1, e2] at this
    have hil : i < xs.length := by rw [hlen]; exact (Array.getElem?_eq_some_iff.1 hfi).1
    rw [List.getElem?_eq_getElem hil] at this
    exact ⟨_, this⟩
  obtain ⟨y0, h0⟩ := step 0 _ _ fT0
  obtain ⟨y1, h1⟩ := step 1 _ _ fT1
  obtain ⟨y2, h2⟩ := step 2 _ _ fT2
  obtain ⟨y3, h3⟩ := step 3 _ _ fT3
  rw [cP] at h0
  rw [cI] at h1 h3
  rw [cS] at h2
  simp only [List.drop_zero, List.drop_succ_cons, List.take_succ_cons, List.take_zero] at h0 h1 h2 h3
  obtain ⟨k1, e1, _, _⟩ := DataW.trod_int Tryz.underlying3 h1
  obtain ⟨k3, e3, _, w3⟩ := DataW.trod_int Tryz.underlying3 h3
  obtain ⟨s2, e2, _, _⟩ := DataW.trod_string Tryz.underlying9 h2
  obtain ⟨xs', n', _, _, hl', hlen', hf'⟩ := DataW.trod_struct uP h0
  obtain ⟨f, hfi, he⟩ := Option.map_eq_some_iff.1 fP0
  injection he with q1 q2
  have h00 := hf' 0 f hfi
  have hil : 0 < xs'.length := by rw [hlen']; exact (Array.getElem?_eq_some_iff.1 hfi).1
  rw [q1, q2, cI, List.getElem?_eq_getElem hil] at h00
  simp only [List.drop_zero, List.take_succ_cons, List.take_zero] at h00
  obtain ⟨k0, e0, _, _⟩ := DataW.trod_int Tryz.underlying3 h00
  injection e0 with e0
  injection e1 with e1
  injection e2 with e2
  injection e3 with e3
  refine ⟨⟨k0, k1, s2.data.toList, k3⟩, e0, e1, ?_, e3, int_bounds w3⟩
  rw [mk_back]
  exact e2

theorem cells_four {w : World} {a : Addr} {cs : List Value} (h : w.cells? 0 a 4 = some cs) : ∃ p q r s, cs = [p, q, r, s] ∧ w.cell? (a.add 0) = some p ∧ w.cell? (a.add 1) = some q ∧ w.cell? (a.add 2) = some r ∧ w.cell? (a.add 3) = some s := by
  unfold World.cells? at h
  rw [if_pos (Nat.zero_le _)] at h
  have hr : List.range 4 = [0, 1, 2, 3] := by decide
  rw [hr] at h
  cases h0 : w.cell? (a.add 0) with
  | none => simp [List.mapM_cons, h0] at h
  | some p =>
    cases h1 : w.cell? (a.add 1) with
    | none => simp [List.mapM_cons, h0, h1] at h
    | some q =>
      cases h2 : w.cell? (a.add 2) with
      | none => simp [List.mapM_cons, h0, h1, h2] at h
      | some r =>
        cases h3 : w.cell? (a.add 3) with
        | none => simp [List.mapM_cons, h0, h1, h2, h3] at h
        | some s =>
          simp [List.mapM_cons, h0, h1, h2, h3] at h
          exact ⟨p, q, r, s, h.symm, rfl, rfl, rfl, rfl⟩

theorem add_none (b off n : Nat) : (⟨b, off, none⟩ : Addr).add n = ⟨b, off + n, none⟩ := by
  unfold Addr.add
  split <;> simp_all
set_option maxRecDepth 100000 in
theorem open_toks {H : Type} {enc : TypeId × Value → H} {W : World} {base : Nat} {v : Value} {d : DataW H} {p : List MemPlace} {sp : Nat → Bool} {held : Bool} (hval : Value.okWide Tryz.prog W .any base 28 v) (hd : DataW.Trod enc Tryz.prog W 0 sp held 28 v d p) :
    ∃ ts, ToksArg W v ts := by
  obtain ⟨a0, len, cap, rfl⟩ := okWide_slice Tryz.underlying28 hval
  obtain ⟨fuel, hf⟩ := hd
  have hf' : DataW.trod enc Tryz.prog W 0 sp held fuel 28 [.slice a0 len cap] = some (d, p) := hf
  rcases DataW.trod_slice Tryz.underlying28 hf' with ⟨hcs, _⟩ | ⟨a, len', cap', elems, rest, n, _, hcs, _, _, _, _, hlen, hel, _⟩
  · injection hcs with hcs _
    injection hcs with h1 h2 h3
    subst h1 h2 h3
    exact ⟨[], none, 0, rfl, fun m h => by simp at h⟩
  · injection hcs with hcs _
    injection hcs with h1 h2 h3
    subst h1 h2 h3
    rw [cT] at hel
    have raw : ∀ i, i < len → ∃ t : Lx.Tok, W.cell? ((a.add (i * 4)).add 0) = some (.int .i64 t.pos) ∧ W.cell? ((a.add (i * 4)).add 1) = some (.int .i64 t.kind) ∧ W.cell? ((a.add (i * 4)).add 2) = some (.string ⟨t.s.toArray⟩) ∧ W.cell? ((a.add (i * 4)).add 3) = some (.int .i64 t.n) ∧
        -9223372036854775808 ≤ t.n ∧ t.n ≤ 9223372036854775807 := by
      intro i hi
      have he := hel i hi
      rw [List.getElem?_eq_getElem (by omega)] at he
      obtain ⟨cs, hc, ht⟩ := Option.bind_eq_some_iff.1 he
      obtain ⟨c0, c1, c2, c3, rfl, k0, k1, k2, k3⟩ := cells_four hc
      obtain ⟨t, rfl, rfl, rfl, rfl, b1, b2⟩ := tok_of_trod ht
      exact ⟨t, k0, k1, k2, k3, b1, b2⟩
    have key : ∀ i, i < len → ∃ t : Lx.Tok, ∃ b off, some a = some (⟨b, off, none⟩ : Addr) ∧ TokAt W b (off + i * 4) t := by
      intro i hi
      obtain ⟨t0, h0, _⟩ := raw 0 (by omega)
      obtain ⟨b, off, spot⟩ := a
      have hspot : spot = none := by simpa [Addr.add] using World.cell?_spot h0
      subst hspot
      obtain ⟨t, k0, k1, k2, k3, b1, b2⟩ := raw i hi
      rw [add_none, add_none] at k0 k1 k2 k3
      exact ⟨t, b, off, rfl, k0, k1, k2, k3, b1, b2⟩
    obtain ⟨ts, hl, hp⟩ := list_of_all len key
    refine ⟨ts, some a, cap, by rw [hl], fun m h => hp m h⟩

end Go.Proofs.YtbhdkkkaeabkhaaGreatDoor

namespace Go.Proofs.YtbhdkkkaeabkhaaGreatDoor
open Go.RowKit Go.Shelf
set_option linter.unusedSimpArgs false
set_option linter.unusedVariables false

/-- Do two tokens differ? -/
def tokDiff (p k n p' k' n' : Int) (s s' : ByteArray) : Bool := !(p == p' && (k == k' && (s.toList == s'.toList && n == n')))
theorem tokDiff_eq (x t : Lx.Tok) : tokDiff x.pos x.kind x.n t.pos t.kind t.n ⟨x.s.toArray⟩ ⟨t.s.toArray⟩ = !(x == t) := by
  unfold tokDiff
  rw [tokBeq x t]
theorem tokNe (w : World) (p k n p' k' n' : Int) (s s' : ByteArray) :
    (binOp .neq 26 (.agg #[.int .i64 p, .int .i64 k, .string s, .int .i64 n]) (.agg #[.int .i64 p', .int .i64 k', .string s', .int .i64 n'])).run Tryz.prog w = .ok (.bool (tokDiff p k n p' k' n' s s')) w := by
  have h1 : Tryz.prog.underlying 26 = some (.struct (Tryz.prog.fieldsOf 26)) := by kernel_rfl
  have h2 : Tryz.prog.stoodInHeld 26 = false := by kernel_rfl
  rw [run_neq_struct, run_equalIn_agg _ _ _ _ _ h1 h2]
  unfold tokDiff
  simp [go_sem]
  by_cases a : p = p'
  · by_cases b : k = k'
    · by_cases c : s.toList = s'.toList
      · by_cases d : n = n' <;> simp [a, b, c, d]
      · simp [a, b, c]
    · simp [a, b]
  · simp [a]
attribute [local go_sem high] tokNe

theorem ToksIn.below {w w' : World} {v : Value} {ts : List Lx.Tok} (h : ToksIn w v ts) (hb : Below w.heap.size w w') : ToksIn w' v ts := by
  rcases h with h | ⟨g, c, cur, fr, h1, h2, h3⟩
  · exact .inl h
  · exact .inr ⟨g, c, cur, fr, h1, (hb.block g (lt_of_block h2)).trans h2, h3⟩
theorem ToksIn.slice {w : World} {v : Value} {ts : List Lx.Tok} (h : ToksIn w v ts) : ∃ a c, v = .slice a ts.length c := by
  rcases h with ⟨rfl, a, c, rfl⟩ | ⟨g, c, cur, fr, rfl, _⟩
  · exact ⟨a, c, rfl⟩
  · exact ⟨_, c, rfl⟩
theorem ToksIn.at {w : World} {ts : List Lx.Tok} {a : Option Addr} {c m : Nat} (h : ToksIn w (.slice a ts.length c) ts) (hm : m < ts.length) : ∃ g cur fr, a = some ⟨g, 0, none⟩ ∧ w.heap[g]? = some (.cells cur 26 fr) ∧ cur.toList.take (ts.length * 4) = ts.flatMap cellsT := by
  rcases h with ⟨h, _⟩ | ⟨g, c, cur, fr, h, h1, h2⟩
  · rw [h] at hm; simp at hm
  · injection h with h _ _; exact ⟨g, cur, fr, h, h1, h2⟩
theorem Below.drewN {B : Nat} {w W : World} (h : Below B w W) (n : Nat) : Below B w (W.drewN n) := ⟨h.os, h.tape, h.output, h.size, h.block⟩
theorem take_step {α : Type} {ts us : List α} {m : Nat} (h : ts.take m = us.take m) (h1 : m < ts.length) (h2 : m < us.length) (e : ts[m] = us[m]) : ts.take (m + 1) = us.take (m + 1) := by
  rw [List.take_succ_eq_append_getElem h1, List.take_succ_eq_append_getElem h2, h, e]

set_option maxHeartbeats 4000000 in
set_option maxRecDepth 100000 in
theorem lawSameTok (ts us : List Lx.Tok) (v u : Value) (w : World) (hv : ToksIn w v ts) (hu : ToksIn w u us) (hl : ts.length ≤ 1000000000) (hl2 : us.length ≤ 1000000000) :
    Calls Tryz.prog 25 #[v, u] w fun e w' => e = .returned (.bool (decide (ts = us))) ∧ Below w.heap.size w w' := by
  obtain ⟨a0, c0, rfl⟩ := hv.slice
  obtain ⟨b0, d0, rfl⟩ := hu.slice
  have HV := Lib.hid hv
  have HU := Lib.hid hu
  clear hv hu
  by_cases hlen : ts.length = us.length
  · have hb : ((ts.length : Int) != (us.length : Int)) = false := by simp [hlen]
    have HL := Lib.hid hlen
    clear hlen
    go_enter Tryz.func25, Tryz.ntmps25
    go_wp2
    go_loopg [5] (ts.length) (fun n v wr => ∃ (m : Nat), n = ts.length - m ∧ v = .int .i64 (m : Int) ∧ m ≤ ts.length ∧ ts.take m = us.take m ∧ Below w.heap.size w wr)
    case atStart => exact ⟨0, rfl, rfl, Nat.zero_le _, by simp, Below.refl _ _⟩
    case round =>
      obtain ⟨m, hn, rfl, hm, he, hbl⟩ := hrel
      have HN := Lib.hid hn
      have HE := Lib.hid he
      clear hn he
      by_cases hlt : m < ts.length
      · have hlt2 : m < us.length := by rw [← HL.out]; exact hlt
        have hi : (m : Int) < (ts.length : Int) := by omega
        have hi2 : (m : Int) < (us.length : Int) := by omega
        have hi0 : (0 : Int) ≤ (m : Int) := by omega
        have hmi : (m : Int) ≤ 1000000000 := by omega
        obtain ⟨g, cur, fr, rfl, hgb, hcur⟩ := HV.out.at hlt
        obtain ⟨g2, cur2, fr2, rfl, hgb2, hcur2⟩ := HU.out.at hlt2
        have hgb' := (hbl.block g (lt_of_block hgb)).trans hgb
        have hgb2' := (hbl.block g2 (lt_of_block hgb2)).trans hgb2
        obtain ⟨t0, t1, t2, t3⟩ := toks_at hgb' hcur hlt
        obtain ⟨u0, u1, u2, u3⟩ := toks_at hgb2' hcur2 hlt2
        have hgl := lt_of_block hgb'
        have hgl2 := lt_of_block hgb2'
        obtain ⟨t, ht⟩ : ∃ t, ts[m]'hlt = t := ⟨_, rfl⟩
        obtain ⟨x, hx⟩ : ∃ x, us[m]'hlt2 = x := ⟨_, rfl⟩
        rw [ht] at t0 t1 t2 t3
        rw [hx] at u0 u1 u2 u3
        have hbq := tokDiff_eq t x
        have HT := Lib.hid ht
        have HX := Lib.hid hx
        clear ht hx hgb hgb' hgb2 hgb2'
        cases hq : (t == x) with
        | true =>
          rw [hq] at hbq
          rw [show (!true) = false from rfl] at hbq
          have htx : t = x := by simpa using hq
          have HS := Lib.hid (take_step HE.out hlt hlt2 (by rw [HT.out, HX.out, htx]))
          clear hq htx
          go_wp2
          go_quiet (fail)
          go_wp2
          go_roundg (ts.length - (m + 1))
          case measure => have := HN.out; omega
          case rel => exact ⟨m + 1, rfl, by simp, hlt, HS.out, Below.drewN hbl _⟩
        | false =>
          rw [hq] at hbq
          rw [show (!false) = true from rfl] at hbq
          have htx : t ≠ x := by simpa using hq
          have HS := Lib.hid (show decide (ts = us) = false by
            rw [decide_eq_false_iff_not]
            rintro rfl
            exact htx (HT.out.symm.trans HX.out))
          clear hq htx
          go_wp2
          go_quiet (fail)
          go_wp2
          go_ret
          rw [HS.out]
          exact ⟨rfl, Below.drewN hbl _⟩
      · have hi : ¬ (m : Int) < (ts.length : Int) := by omega
        have HS := Lib.hid (show decide (ts = us) = true by
          rw [decide_eq_true_eq]
          have h1 := HE.out
          rwa [List.take_of_length_le (by omega), List.take_of_length_le (by have := HL.out; omega)] at h1)
        go_wp2
        go_ret
        rw [HS.out]
        exact ⟨rfl, hbl⟩
  · have hb : ((ts.length : Int) != (us.length : Int)) = true := by simp; omega
    have HS := Lib.hid (show decide (ts = us) = false by
      rw [decide_eq_false_iff_not]
      rintro rfl
      exact hlen rfl)
    clear hlen
    go_enter Tryz.func25, Tryz.ntmps25
    go_wp2
    go_ret
    rw [HS.out]
    exact ⟨rfl, Below.refl _ _⟩

end Go.Proofs.YtbhdkkkaeabkhaaGreatDoor

namespace Go.Proofs.YtbhdkkkaeabkhaaGreatDoor
open Go.RowKit Go.Shelf
set_option linter.unusedSimpArgs false
set_option linter.unusedVariables false

set_option maxHeartbeats 2000000 in
theorem lawToken (k a n : Int) (s : ByteArray) (w : World) : Calls Tryz.prog 15 #[.int .i64 k, .int .i64 a, .int .i64 n, .string s] w fun e w' => e = .returned (.agg #[.int .i64 a, .int .i64 k, .string s, .int .i64 n]) ∧ w.grownBy w' none := by
  go_enter Tryz.func15, Tryz.ntmps15
  go_wp2
  refine bodyPost_ret (v := .agg #[.int .i64 a, .int .i64 k, .string s, .int .i64 n]) (by simp [results, Tryz.results15, go_sem]) rfl ?_
  exact ⟨rfl, (World.grownBy_alloc _ _ _).trans (World.grownBy_alloc _ _ _)⟩

end Go.Proofs.YtbhdkkkaeabkhaaGreatDoor

namespace Go.Proofs.YtbhdkkkaeabkhaaGreatDoor
open Go.RowKit Go.Shelf
set_option linter.unusedSimpArgs false
set_option linter.unusedVariables false

theorem row_toks {w w' : World} {v : Value} {ts : List Lx.Tok} {base : Nat} (h : RowT w base v ts) : ToksIn w v ts := by
  rcases h with ⟨rfl, rfl⟩ | ⟨g, cur, rfl, _, h1, h2, h3⟩
  · exact .inl ⟨rfl, none, 0, rfl⟩
  · exact .inr ⟨g, _, cur, _, rfl, h1, h3⟩

/-- A law's world: nothing that was there is touched. -/
structure LW (w W : World) : Prop where
  b : Below w.heap.size w W
  g : GL W
  n : NG ≤ W.heap.size
theorem LW.refl {w : World} (hG : GL w) (hN : NG ≤ w.heap.size) : LW w w := ⟨Below.refl _ _, hG, hN⟩
theorem LW.go {w W W' : World} (h : LW w W) (hb : Below W.heap.size W W') : LW w W' :=
  ⟨h.b.trans (hb.mono h.b.size), h.g.below hb, Nat.le_trans h.n hb.size⟩
theorem LW.alloc {w W : World} (h : LW w W) (o : Obj) : LW w (W.alloc o) := h.go (grown_below (World.grownBy_alloc _ _ _))
theorem LW.drewN {w W : World} (h : LW w W) (n : Nat) : LW w (W.drewN n) := h.go (Below.drewN (Below.refl _ _) n)

theorem lwTok {w W : World} (h : LW w W) (k a n : Int) (s : ByteArray) : Calls Tryz.prog 15 #[.int .i64 k, .int .i64 a, .int .i64 n, .string s] W fun e W' => e = .returned (.agg #[.int .i64 a, .int .i64 k, .string s, .int .i64 n]) ∧ LW w W' :=
  (lawToken k a n s W).mono fun e W' h' => ⟨h'.1, h.go (grown_below h'.2)⟩
theorem lwTokens {w W : World} (h : LW w W) (s : ByteArray) (hs : s.size ≤ 140737488351232) : Calls Tryz.prog 16 #[.string s] W fun e W' => LW w W' ∧ Below W.heap.size W W' ∧ TokIs W (Lx.toks s.data.toList) e W' :=
  (lexTokens s W h.g.gs h.n hs).mono fun e W' h' => ⟨h.go (grown_below h'.1), grown_below h'.1, h'⟩
theorem lwSame {w W : World} (h : LW w W) {ts us : List Lx.Tok} {v u : Value} (hv : ToksIn W v ts) (hu : ToksIn W u us) (hl : ts.length ≤ 1000000000) (hl2 : us.length ≤ 1000000000) :
    Calls Tryz.prog 25 #[v, u] W fun e W' => e = .returned (.bool (decide (ts = us))) ∧ LW w W' :=
  (lawSameTok ts us v u W hv hu hl hl2).mono fun e W' h' => ⟨h'.1, h.go h'.2⟩

def saysB (s : Lx.Bytes) (ts : List Lx.Tok) : Bool := match Lx.toks s with | (l, none) => decide (l = ts) | _ => false

set_option maxHeartbeats 4000000 in
theorem lawSays (s : ByteArray) (ts : List Lx.Tok) (v : Value) (w : World) (hG : GL w) (hN : NG ≤ w.heap.size) (hs : s.size ≤ 140737488351232) (hv : ToksIn w v ts) (hl : ts.length ≤ 1000000000) :
    Calls Tryz.prog 14 #[.string s, v] w fun e w' => e = .returned (.bool (saysB s.data.toList ts)) ∧ LW w w' := by
  have hT := lwTokens (LW.refl hG hN) s hs
  have hcl := toks_length s.data.toList
  obtain ⟨⟨l, o⟩, hr⟩ : ∃ r, Lx.toks s.data.toList = r := ⟨_, rfl⟩
  rw [hr] at hT hcl
  have hB : saysB s.data.toList ts = (match (l, o) with | (l, none) => decide (l = ts) | _ => false) := by unfold saysB; rw [hr]
  clear hr hG hN
  cases o with
  | some yx =>
    obtain ⟨y, x⟩ := yx
    have HB := Lib.hid hB
    clear hB
    go_enter Tryz.func14, Tryz.ntmps14
    go_wp2_with (go_at_call 16; refine hT.mono ?_; clear hT; rintro e W1 ⟨h1, -, -, g, rfl, hR, -⟩)
    go_ret
    rw [HB.out]
    exact ⟨rfl, h1⟩
  | none =>
    have HB := Lib.hid (show saysB s.data.toList ts = decide (l = ts) from hB)
    clear hB
    go_enter Tryz.func14, Tryz.ntmps14
    go_wp2_with (first
      | (go_at_call 16; refine hT.mono ?_; clear hT; rintro e W1 ⟨h1, hb1, -, u, rfl, hrow⟩; have hu := row_toks (w' := W1) hrow; have hv1 := hv.below hb1)
      | (go_at_call 25; refine (lwSame h1 hu hv1 (by simpa using Nat.le_trans hcl (by decide)) hl).mono ?_; rintro e W2 ⟨rfl, h2⟩))
    go_ret
    rw [HB.out]
    exact ⟨rfl, h2⟩

end Go.Proofs.YtbhdkkkaeabkhaaGreatDoor

namespace Go.Proofs.YtbhdkkkaeabkhaaGreatDoor
open Go.RowKit Go.Shelf
set_option linter.unusedSimpArgs false
set_option linter.unusedVariables false

/-- A row of texts, read from its block's head. -/
def StrsIn (w : World) (v : Value) (l : List Lx.Bytes) : Prop :=
  ∃ g c cur fr, v = .slice (some ⟨g, 0, none⟩) l.length c ∧ w.heap[g]? = some (.cells cur 9 fr) ∧ cur.toList.take l.length = l.map (fun s => Value.string ⟨s.toArray⟩)
theorem StrsIn.below {w w' : World} {v : Value} {ts : List Lx.Bytes} (h : StrsIn w v ts) (hb : Below w.heap.size w w') : StrsIn w' v ts := by
  obtain ⟨g, c, cur, fr, h1, h2, h3⟩ := h
  exact ⟨g, c, cur, fr, h1, (hb.block g (lt_of_block h2)).trans h2, h3⟩
theorem strs_at {w : World} {ts : List Lx.Bytes} {g m : Nat} {cur : Array Value} {fr : Nat × Nat} (hg : w.heap[g]? = some (.cells cur 9 fr)) (hc : cur.toList.take ts.length = ts.map (fun s => Value.string ⟨s.toArray⟩)) (h : m < ts.length) :
    w.cell? ⟨g, m, none⟩ = some (.string ⟨(ts[m]'h).toArray⟩) := by
  rw [cell_of hg, ← Array.getElem?_toList, ← List.getElem?_take_of_lt (l := cur.toList) h, hc, List.getElem?_map, List.getElem?_eq_getElem h]
  rfl
theorem refWords (w : World) : Calls Tryz.prog 21 #[] w fun e w' =>
    e = .returned (.slice (some ⟨w.heap.size, 0, none⟩) 25 25) ∧ w' = w.alloc (.cells wordCells 9) := by
  go_enter Tryz.func21, Tryz.ntmps21
  go_wp2
  go_ret
  exact ⟨rfl, rfl⟩
theorem strsWords (w : World) : StrsIn (w.alloc (.cells wordCells 9)) (.slice (some ⟨w.heap.size, 0, none⟩) 25 25) Lx.words :=
  ⟨w.heap.size, 25, wordCells, (0, 0), rfl, heap_alloc_new w _, rfl⟩

set_option maxHeartbeats 4000000 in
theorem lawSameStr (ts us : List Lx.Bytes) (v u : Value) (w : World) (hv : StrsIn w v ts) (hu : StrsIn w u us) (hl : ts.length ≤ 1000000000) (hl2 : us.length ≤ 1000000000) :
    Calls Tryz.prog 19 #[v, u] w fun e w' => e = .returned (.bool (decide (ts = us))) ∧ Below w.heap.size w w' := by
  obtain ⟨g, c0, cur, fr, rfl, hgb, hcur⟩ := hv
  obtain ⟨g2, d0, cur2, fr2, rfl, hgb2, hcur2⟩ := hu
  have HA := Lib.hid hgb
  have HB := Lib.hid hgb2
  have HC := Lib.hid hcur
  have HD := Lib.hid hcur2
  clear hgb hgb2 hcur hcur2
  by_cases hlen : ts.length = us.length
  · have hb : ((ts.length : Int) != (us.length : Int)) = false := by simp [hlen]
    have HL := Lib.hid hlen
    clear hlen
    go_enter Tryz.func19, Tryz.ntmps19
    go_wp2
    go_loopg [5] (ts.length) (fun n v wr => ∃ (m : Nat), n = ts.length - m ∧ v = .int .i64 (m : Int) ∧ m ≤ ts.length ∧ ts.take m = us.take m ∧ Below w.heap.size w wr)
    case atStart => exact ⟨0, rfl, rfl, Nat.zero_le _, by simp, Below.refl _ _⟩
    case round =>
      obtain ⟨m, hn, rfl, hm, he, hbl⟩ := hrel
      have HN := Lib.hid hn
      have HE := Lib.hid he
      clear hn he
      by_cases hlt : m < ts.length
      · have hlt2 : m < us.length := by rw [← HL.out]; exact hlt
        have hi : (m : Int) < (ts.length : Int) := by omega
        have hi2 : (m : Int) < (us.length : Int) := by omega
        have hi0 : (0 : Int) ≤ (m : Int) := by omega
        have hmi : (m : Int) ≤ 1000000000 := by omega
        have hgb' := (hbl.block g (lt_of_block HA.out)).trans HA.out
        have hgb2' := (hbl.block g2 (lt_of_block HB.out)).trans HB.out
        have t0 := strs_at hgb' HC.out hlt
        have u0 := strs_at hgb2' HD.out hlt2
        have hgl := lt_of_block hgb'
        have hgl2 := lt_of_block hgb2'
        obtain ⟨t, ht⟩ : ∃ t, ts[m]'hlt = t := ⟨_, rfl⟩
        obtain ⟨x, hx⟩ : ∃ x, us[m]'hlt2 = x := ⟨_, rfl⟩
        rw [ht] at t0
        rw [hx] at u0
        have HT := Lib.hid ht
        have HX := Lib.hid hx
        clear ht hx hgb' hgb2'
        cases hq : (t == x) with
        | true =>
          have htx : t = x := by simpa using hq
          have HS := Lib.hid (take_step HE.out hlt hlt2 (by rw [HT.out, HX.out, htx]))
          clear htx
          go_wp2
          go_quiet (fail)
          go_wp2
          go_roundg (ts.length - (m + 1))
          case measure => have := HN.out; omega
          case rel => exact ⟨m + 1, rfl, by simp, hlt, HS.out, Below.drewN hbl _⟩
        | false =>
          have htx : t ≠ x := by simpa using hq
          have HS := Lib.hid (show decide (ts = us) = false by
            rw [decide_eq_false_iff_not]
            rintro rfl
            exact htx (HT.out.symm.trans HX.out))
          clear htx
          go_wp2
          go_quiet (fail)
          go_wp2
          go_ret
          rw [HS.out]
          exact ⟨rfl, Below.drewN hbl _⟩
      · have hi : ¬ (m : Int) < (ts.length : Int) := by omega
        have HS := Lib.hid (show decide (ts = us) = true by
          rw [decide_eq_true_eq]
          have h1 := HE.out
          rwa [List.take_of_length_le (by omega), List.take_of_length_le (by have := HL.out; omega)] at h1)
        go_wp2
        go_ret
        rw [HS.out]
        exact ⟨rfl, hbl⟩
  · have hb : ((ts.length : Int) != (us.length : Int)) = true := by simp; omega
    have HS := Lib.hid (show decide (ts = us) = false by
      rw [decide_eq_false_iff_not]
      rintro rfl
      exact hlen rfl)
    clear hlen
    go_enter Tryz.func19, Tryz.ntmps19
    go_wp2
    go_ret
    rw [HS.out]
    exact ⟨rfl, Below.refl _ _⟩

end Go.Proofs.YtbhdkkkaeabkhaaGreatDoor
