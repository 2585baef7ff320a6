/-
  coilbook.Same at tokens and at texts.
-/
import Derived.Test.YtbhdkkkaeabkhaaGreatDoorLxJoin
namespace Go.Proofs.YtbhdkkkaeabkhaaGreatDoor
open Go.RowKit Go.Shelf
set_option linter.unusedSimpArgs false
set_option linter.unusedVariables false

/-- Do two tokens differ? -/
def tokDiff (p k n p' k' n' : Int) (s s' : ByteArray) : Bool := !(p == p' && (k == k' && (s.toList == s'.toList && n == n')))
theorem tokDiff_eq (x t : Lx.Tok) : tokDiff x.pos x.kind x.n t.pos t.kind t.n ⟨x.s.toArray⟩ ⟨t.s.toArray⟩ = !(x == t) := by
  unfold tokDiff
  rw [tokBeq x t]
theorem tokNe (w : World) (p k n p' k' n' : Int) (s s' : ByteArray) :
    (binOp .neq 26 (.agg #[.int .i64 p, .int .i64 k, .string s, .int .i64 n]) (.agg #[.int .i64 p', .int .i64 k', .string s', .int .i64 n'])).run Tryz.prog w = .ok (.bool (tokDiff p k n p' k' n' s s')) w := by
  have h1 : Tryz.prog.underlying 26 = some (.struct (Tryz.prog.fieldsOf 26)) := by kernel_rfl
  have h2 : Tryz.prog.stoodInHeld 26 = false := by kernel_rfl
  rw [run_neq_struct, run_equalIn_agg _ _ _ _ _ h1 h2]
  unfold tokDiff
  simp [go_sem]
  by_cases a : p = p'
  · by_cases b : k = k'
    · by_cases c : s.toList = s'.toList
      · by_cases d : n = n' <;> simp [a, b, c, d]
      · simp [a, b, c]
    · simp [a, b]
  · simp [a]
attribute [local go_sem high] tokNe

theorem ToksIn.below {w w' : World} {v : Value} {ts : List Lx.Tok} (h : ToksIn w v ts) (hb : Below w.heap.size w w') : ToksIn w' v ts := by
  rcases h with h | ⟨g, c, cur, fr, h1, h2, h3⟩
  · exact .inl h
  · exact .inr ⟨g, c, cur, fr, h1, (hb.block g (lt_of_block h2)).trans h2, h3⟩
theorem ToksIn.slice {w : World} {v : Value} {ts : List Lx.Tok} (h : ToksIn w v ts) : ∃ a c, v = .slice a ts.length c := by
  rcases h with ⟨rfl, a, c, rfl⟩ | ⟨g, c, cur, fr, rfl, _⟩
  · exact ⟨a, c, rfl⟩
  · exact ⟨_, c, rfl⟩
theorem ToksIn.at {w : World} {ts : List Lx.Tok} {a : Option Addr} {c m : Nat} (h : ToksIn w (.slice a ts.length c) ts) (hm : m < ts.length) : ∃ g cur fr, a = some ⟨g, 0, none⟩ ∧ w.heap[g]? = some (.cells cur 26 fr) ∧ cur.toList.take (ts.length * 4) = ts.flatMap cellsT := by
  rcases h with ⟨h, _⟩ | ⟨g, c, cur, fr, h, h1, h2⟩
  · rw [h] at hm; simp at hm
  · injection h with h _ _; exact ⟨g, cur, fr, h, h1, h2⟩
theorem Below.drewN {B : Nat} {w W : World} (h : Below B w W) (n : Nat) : Below B w (W.drewN n) := ⟨h.os, h.tape, h.output, h.size, h.block⟩
theorem take_step {α : Type} {ts us : List α} {m : Nat} (h : ts.take m = us.take m) (h1 : m < ts.length) (h2 : m < us.length) (e : ts[m] = us[m]) : ts.take (m + 1) = us.take (m + 1) := by
  rw [List.take_succ_eq_append_getElem h1, List.take_succ_eq_append_getElem h2, h, e]

set_option maxHeartbeats 4000000 in
set_option maxRecDepth 100000 in
theorem lawSameTok (ts us : List Lx.Tok) (v u : Value) (w : World) (hv : ToksIn w v ts) (hu : ToksIn w u us) (hl : ts.length ≤ 1000000000) (hl2 : us.length ≤ 1000000000) :
    Calls Tryz.prog 25 #[v, u] w fun e w' => e = .returned (.bool (decide (ts = us))) ∧ Below w.heap.size w w' := by
  obtain ⟨a0, c0, rfl⟩ := hv.slice
  obtain ⟨b0, d0, rfl⟩ := hu.slice
  have HV := Lib.hid hv
  have HU := Lib.hid hu
  clear hv hu
  by_cases hlen : ts.length = us.length
  · have hb : ((ts.length : Int) != (us.length : Int)) = false := by simp [hlen]
    have HL := Lib.hid hlen
    clear hlen
    go_enter Tryz.func25, Tryz.ntmps25
    go_wp2
    go_loopg [5] (ts.length) (fun n v wr => ∃ (m : Nat), n = ts.length - m ∧ v = .int .i64 (m : Int) ∧ m ≤ ts.length ∧ ts.take m = us.take m ∧ Below w.heap.size w wr)
    case atStart => exact ⟨0, rfl, rfl, Nat.zero_le _, by simp, Below.refl _ _⟩
    case round =>
      obtain ⟨m, hn, rfl, hm, he, hbl⟩ := hrel
      have HN := Lib.hid hn
      have HE := Lib.hid he
      clear hn he
      by_cases hlt : m < ts.length
      · have hlt2 : m < us.length := by rw [← HL.out]; exact hlt
        have hi : (m : Int) < (ts.length : Int) := by omega
        have hi2 : (m : Int) < (us.length : Int) := by omega
        have hi0 : (0 : Int) ≤ (m : Int) := by omega
        have hmi : (m : Int) ≤ 1000000000 := by omega
        obtain ⟨g, cur, fr, rfl, hgb, hcur⟩ := HV.out.at hlt
        obtain ⟨g2, cur2, fr2, rfl, hgb2, hcur2⟩ := HU.out.at hlt2
        have hgb' := (hbl.block g (lt_of_block hgb)).trans hgb
        have hgb2' := (hbl.block g2 (lt_of_block hgb2)).trans hgb2
        obtain ⟨t0, t1, t2, t3⟩ := toks_at hgb' hcur hlt
        obtain ⟨u0, u1, u2, u3⟩ := toks_at hgb2' hcur2 hlt2
        have hgl := lt_of_block hgb'
        have hgl2 := lt_of_block hgb2'
        obtain ⟨t, ht⟩ : ∃ t, ts[m]'hlt = t := ⟨_, rfl⟩
        obtain ⟨x, hx⟩ : ∃ x, us[m]'hlt2 = x := ⟨_, rfl⟩
        rw [ht] at t0 t1 t2 t3
        rw [hx] at u0 u1 u2 u3
        have hbq := tokDiff_eq t x
        have HT := Lib.hid ht
        have HX := Lib.hid hx
        clear ht hx hgb hgb' hgb2 hgb2'
        cases hq : (t == x) with
        | true =>
          rw [hq] at hbq
          rw [show (!true) = false from rfl] at hbq
          have htx : t = x := by simpa using hq
          have HS := Lib.hid (take_step HE.out hlt hlt2 (by rw [HT.out, HX.out, htx]))
          clear hq htx
          go_wp2
          go_quiet (fail)
          go_wp2
          go_roundg (ts.length - (m + 1))
          case measure => have := HN.out; omega
          case rel => exact ⟨m + 1, rfl, by simp, hlt, HS.out, Below.drewN hbl _⟩
        | false =>
          rw [hq] at hbq
          rw [show (!false) = true from rfl] at hbq
          have htx : t ≠ x := by simpa using hq
          have HS := Lib.hid (show decide (ts = us) = false by
            rw [decide_eq_false_iff_not]
            rintro rfl
            exact htx (HT.out.symm.trans HX.out))
          clear hq htx
          go_wp2
          go_quiet (fail)
          go_wp2
          go_ret
          rw [HS.out]
          exact ⟨rfl, Below.drewN hbl _⟩
      · have hi : ¬ (m : Int) < (ts.length : Int) := by omega
        have HS := Lib.hid (show decide (ts = us) = true by
          rw [decide_eq_true_eq]
          have h1 := HE.out
          rwa [List.take_of_length_le (by omega), List.take_of_length_le (by have := HL.out; omega)] at h1)
        go_wp2
        go_ret
        rw [HS.out]
        exact ⟨rfl, hbl⟩
  · have hb : ((ts.length : Int) != (us.length : Int)) = true := by simp; omega
    have HS := Lib.hid (show decide (ts = us) = false by
      rw [decide_eq_false_iff_not]
      rintro rfl
      exact hlen rfl)
    clear hlen
    go_enter Tryz.func25, Tryz.ntmps25
    go_wp2
    go_ret
    rw [HS.out]
    exact ⟨rfl, Below.refl _ _⟩

end Go.Proofs.YtbhdkkkaeabkhaaGreatDoor
