/-
  coilbook.Same at rows of texts.
  coilkeep.Texts.
  coilkeep.bools.
  The walks of is, name, great, bytes, unlike.
  The walk of typ at whatever right type.
-/
import Derived.Test.YtdncljdfmdgdaaaGreatDoorM10
import Derived.Test.YtdncljdfmdgdaaaGreatDoorM11
import Derived.Test.YtdncljdfmdgdaaaGreatDoorM6
import Derived.Test.YtdncljdfmdgdaaaGreatDoorM8
namespace Go.Proofs.YtdncljdfmdgdaaaGreatDoor
open Go.RowKit Go.Shelf
set_option linter.unusedSimpArgs false
set_option linter.unusedVariables false

set_option maxHeartbeats 4000000 in
theorem synSameStr (ts us : List Lx.Bytes) (v u : Value) (w : World) (hv : StrRow w v ts) (hu : StrRow w u us) (hl : ts.length ≤ 1000000000) (hl2 : us.length ≤ 1000000000) :
    Calls Tryz.prog 16 #[v, u] w fun e w' => e = .returned (.bool (decide (ts = us))) ∧ Below w.heap.size w w' := by
  obtain ⟨A1, c1, rfl, hv'⟩ := hv
  obtain ⟨A2, c2, rfl, hu'⟩ := hu
  have HA := Lib.hid (show StrRow w (.slice A1 ts.length c1) ts from ⟨A1, c1, rfl, hv'⟩)
  have HB := Lib.hid (show StrRow w (.slice A2 us.length c2) us from ⟨A2, c2, rfl, hu'⟩)
  clear hv' hu'
  by_cases hlen : ts.length = us.length
  · have hb : ((ts.length : Int) != (us.length : Int)) = false := by simp [hlen]
    have HL := Lib.hid hlen
    clear hlen
    go_enter Tryz.func16, Tryz.ntmps16
    go_wp2
    go_loopg [5] (ts.length) (fun n v wr => ∃ (m : Nat), n = ts.length - m ∧ v = .int .i64 (m : Int) ∧ m ≤ ts.length ∧ ts.take m = us.take m ∧ Below w.heap.size w wr)
    case atStart => exact ⟨0, rfl, rfl, Nat.zero_le _, by simp, Below.refl _ _⟩
    case round =>
      obtain ⟨m, hn, rfl, hm, he, hbl⟩ := hrel
      have HN := Lib.hid hn
      have HE := Lib.hid he
      clear hn he
      by_cases hlt : m < ts.length
      · have hlt2 : m < us.length := by rw [← HL.out]; exact hlt
        have hi : (m : Int) < (ts.length : Int) := by omega
        have hi2 : (m : Int) < (us.length : Int) := by omega
        have hi0 : (0 : Int) ≤ (m : Int) := by omega
        have hmi : (m : Int) ≤ 1000000000 := by omega
        obtain ⟨g, off, rfl, hgl, t0⟩ := HA.out.cellAt hbl m hlt
        obtain ⟨g2, off2, rfl, hgl2, u0⟩ := HB.out.cellAt hbl m hlt2
        obtain ⟨t, ht⟩ : ∃ t, ts[m]'hlt = t := ⟨_, rfl⟩
        obtain ⟨x, hx⟩ : ∃ x, us[m]'hlt2 = x := ⟨_, rfl⟩
        rw [ht] at t0
        rw [hx] at u0
        have HT := Lib.hid ht
        have HX := Lib.hid hx
        clear ht hx
        cases hq : (t == x) with
        | true =>
          have htx : t = x := by simpa using hq
          have HS := Lib.hid (take_step HE.out hlt hlt2 (by rw [HT.out, HX.out, htx]))
          clear htx
          go_wp2
          go_quiet (fail)
          go_wp2
          go_roundg (ts.length - (m + 1))
          case measure => have := HN.out; omega
          case rel => exact ⟨m + 1, rfl, by simp, hlt, HS.out, Below.drewN hbl _⟩
        | false =>
          have htx : t ≠ x := by simpa using hq
          have HS := Lib.hid (show decide (ts = us) = false by
            rw [decide_eq_false_iff_not]
            rintro rfl
            exact htx (HT.out.symm.trans HX.out))
          clear htx
          go_wp2
          go_quiet (fail)
          go_wp2
          go_ret
          rw [HS.out]
          exact ⟨rfl, Below.drewN hbl _⟩
      · have hi : ¬ (m : Int) < (ts.length : Int) := by omega
        have HS := Lib.hid (show decide (ts = us) = true by
          rw [decide_eq_true_eq]
          have h1 := HE.out
          rwa [List.take_of_length_le (by omega), List.take_of_length_le (by have := HL.out; omega)] at h1)
        go_wp2
        go_ret
        rw [HS.out]
        exact ⟨rfl, hbl⟩
  · have hb : ((ts.length : Int) != (us.length : Int)) = true := by simp; omega
    have HS := Lib.hid (show decide (ts = us) = false by
      rw [decide_eq_false_iff_not]
      rintro rfl
      exact hlen rfl)
    clear hlen
    go_enter Tryz.func16, Tryz.ntmps16
    go_wp2
    go_ret
    rw [HS.out]
    exact ⟨rfl, Below.refl _ _⟩


end Go.Proofs.YtdncljdfmdgdaaaGreatDoor

namespace Go.Proofs.YtdncljdfmdgdaaaGreatDoor
open Go.RowKit Go.Shelf
set_option linter.unusedSimpArgs false
set_option linter.unusedVariables false

set_option maxHeartbeats 4000000 in
theorem keepTexts (ts us : List Lx.Bytes) (v u : Value) (w : World) (hv : StrRow w v ts) (hu : StrRow w u us) (hl : ts.length ≤ 1000000000) (hl2 : us.length ≤ 1000000000) :
    Calls Tryz.prog 46 #[v, u] w fun e w' => e = .returned (.bool (decide (ts = us))) ∧ Below w.heap.size w w' := by
  obtain ⟨A1, c1, rfl, hv'⟩ := hv
  obtain ⟨A2, c2, rfl, hu'⟩ := hu
  have HA := Lib.hid (show StrRow w (.slice A1 ts.length c1) ts from ⟨A1, c1, rfl, hv'⟩)
  have HB := Lib.hid (show StrRow w (.slice A2 us.length c2) us from ⟨A2, c2, rfl, hu'⟩)
  clear hv' hu'
  by_cases hlen : ts.length = us.length
  · have hb : ((ts.length : Int) != (us.length : Int)) = false := by simp [hlen]
    have HL := Lib.hid hlen
    clear hlen
    go_enter Tryz.func46, Tryz.ntmps46
    go_wp2
    go_loopg [5] (ts.length) (fun n v wr => ∃ (m : Nat), n = ts.length - m ∧ v = .int .i64 (m : Int) ∧ m ≤ ts.length ∧ ts.take m = us.take m ∧ Below w.heap.size w wr)
    case atStart => exact ⟨0, rfl, rfl, Nat.zero_le _, by simp, Below.refl _ _⟩
    case round =>
      obtain ⟨m, hn, rfl, hm, he, hbl⟩ := hrel
      have HN := Lib.hid hn
      have HE := Lib.hid he
      clear hn he
      by_cases hlt : m < ts.length
      · have hlt2 : m < us.length := by rw [← HL.out]; exact hlt
        have hi : (m : Int) < (ts.length : Int) := by omega
        have hi2 : (m : Int) < (us.length : Int) := by omega
        have hi0 : (0 : Int) ≤ (m : Int) := by omega
        have hmi : (m : Int) ≤ 1000000000 := by omega
        obtain ⟨g, off, rfl, hgl, t0⟩ := HA.out.cellAt hbl m hlt
        obtain ⟨g2, off2, rfl, hgl2, u0⟩ := HB.out.cellAt hbl m hlt2
        obtain ⟨t, ht⟩ : ∃ t, ts[m]'hlt = t := ⟨_, rfl⟩
        obtain ⟨x, hx⟩ : ∃ x, us[m]'hlt2 = x := ⟨_, rfl⟩
        rw [ht] at t0
        rw [hx] at u0
        have HT := Lib.hid ht
        have HX := Lib.hid hx
        clear ht hx
        cases hq : (t == x) with
        | true =>
          have htx : t = x := by simpa using hq
          have HS := Lib.hid (take_step HE.out hlt hlt2 (by rw [HT.out, HX.out, htx]))
          clear htx
          go_wp2
          go_quiet (fail)
          go_wp2
          go_roundg (ts.length - (m + 1))
          case measure => have := HN.out; omega
          case rel => exact ⟨m + 1, rfl, by simp, hlt, HS.out, Below.drewN hbl _⟩
        | false =>
          have htx : t ≠ x := by simpa using hq
          have HS := Lib.hid (show decide (ts = us) = false by
            rw [decide_eq_false_iff_not]
            rintro rfl
            exact htx (HT.out.symm.trans HX.out))
          clear htx
          go_wp2
          go_quiet (fail)
          go_wp2
          go_ret
          rw [HS.out]
          exact ⟨rfl, Below.drewN hbl _⟩
      · have hi : ¬ (m : Int) < (ts.length : Int) := by omega
        have HS := Lib.hid (show decide (ts = us) = true by
          rw [decide_eq_true_eq]
          have h1 := HE.out
          rwa [List.take_of_length_le (by omega), List.take_of_length_le (by have := HL.out; omega)] at h1)
        go_wp2
        go_ret
        rw [HS.out]
        exact ⟨rfl, hbl⟩
  · have hb : ((ts.length : Int) != (us.length : Int)) = true := by simp; omega
    have HS := Lib.hid (show decide (ts = us) = false by
      rw [decide_eq_false_iff_not]
      rintro rfl
      exact hlen rfl)
    clear hlen
    go_enter Tryz.func46, Tryz.ntmps46
    go_wp2
    go_ret
    rw [HS.out]
    exact ⟨rfl, Below.refl _ _⟩


end Go.Proofs.YtdncljdfmdgdaaaGreatDoor

namespace Go.Proofs.YtdncljdfmdgdaaaGreatDoor
open Go.RowKit Go.Shelf
set_option linter.unusedSimpArgs false
set_option linter.unusedVariables false

set_option maxHeartbeats 4000000 in
theorem keepBools (ts us : List Bool) (v u : Value) (w : World) (hv : BoolRow w v ts) (hu : BoolRow w u us) (hl : ts.length ≤ 1000000000) (hl2 : us.length ≤ 1000000000) :
    Calls Tryz.prog 71 #[v, u] w fun e w' => e = .returned (.bool (decide (ts = us))) ∧ Below w.heap.size w w' := by
  obtain ⟨A1, c1, rfl, hv'⟩ := hv
  obtain ⟨A2, c2, rfl, hu'⟩ := hu
  have HA := Lib.hid (show BoolRow w (.slice A1 ts.length c1) ts from ⟨A1, c1, rfl, hv'⟩)
  have HB := Lib.hid (show BoolRow w (.slice A2 us.length c2) us from ⟨A2, c2, rfl, hu'⟩)
  clear hv' hu'
  by_cases hlen : ts.length = us.length
  · have hb : ((ts.length : Int) != (us.length : Int)) = false := by simp [hlen]
    have HL := Lib.hid hlen
    clear hlen
    go_enter Tryz.func71, Tryz.ntmps71
    go_wp2
    go_loopg [5] (ts.length) (fun n v wr => ∃ (m : Nat), n = ts.length - m ∧ v = .int .i64 (m : Int) ∧ m ≤ ts.length ∧ ts.take m = us.take m ∧ Below w.heap.size w wr)
    case atStart => exact ⟨0, rfl, rfl, Nat.zero_le _, by simp, Below.refl _ _⟩
    case round =>
      obtain ⟨m, hn, rfl, hm, he, hbl⟩ := hrel
      have HN := Lib.hid hn
      have HE := Lib.hid he
      clear hn he
      by_cases hlt : m < ts.length
      · have hlt2 : m < us.length := by rw [← HL.out]; exact hlt
        have hi : (m : Int) < (ts.length : Int) := by omega
        have hi2 : (m : Int) < (us.length : Int) := by omega
        have hi0 : (0 : Int) ≤ (m : Int) := by omega
        have hmi : (m : Int) ≤ 1000000000 := by omega
        obtain ⟨g, off, rfl, hgl, t0⟩ := HA.out.cellAt hbl m hlt
        obtain ⟨g2, off2, rfl, hgl2, u0⟩ := HB.out.cellAt hbl m hlt2
        obtain ⟨t, ht⟩ : ∃ t, ts[m]'hlt = t := ⟨_, rfl⟩
        obtain ⟨x, hx⟩ : ∃ x, us[m]'hlt2 = x := ⟨_, rfl⟩
        rw [ht] at t0
        rw [hx] at u0
        have HT := Lib.hid ht
        have HX := Lib.hid hx
        clear ht hx
        cases hq : (t == x) with
        | true =>
          have htx : t = x := by simpa using hq
          have hq2 : (t != x) = false := by simp [htx]
          have HS := Lib.hid (take_step HE.out hlt hlt2 (by rw [HT.out, HX.out, htx]))
          clear htx
          go_wp2
          go_quiet (fail)
          go_wp2
          go_roundg (ts.length - (m + 1))
          case measure => have := HN.out; omega
          case rel => exact ⟨m + 1, rfl, by simp, hlt, HS.out, Below.drewN hbl _⟩
        | false =>
          have htx : t ≠ x := by simpa using hq
          have hq2 : (t != x) = true := by simp [bne, hq]
          have HS := Lib.hid (show decide (ts = us) = false by
            rw [decide_eq_false_iff_not]
            rintro rfl
            exact htx (HT.out.symm.trans HX.out))
          clear htx
          go_wp2
          go_quiet (fail)
          go_wp2
          go_ret
          rw [HS.out]
          exact ⟨rfl, Below.drewN hbl _⟩
      · have hi : ¬ (m : Int) < (ts.length : Int) := by omega
        have HS := Lib.hid (show decide (ts = us) = true by
          rw [decide_eq_true_eq]
          have h1 := HE.out
          rwa [List.take_of_length_le (by omega), List.take_of_length_le (by have := HL.out; omega)] at h1)
        go_wp2
        go_ret
        rw [HS.out]
        exact ⟨rfl, hbl⟩
  · have hb : ((ts.length : Int) != (us.length : Int)) = true := by simp; omega
    have HS := Lib.hid (show decide (ts = us) = false by
      rw [decide_eq_false_iff_not]
      rintro rfl
      exact hlen rfl)
    clear hlen
    go_enter Tryz.func71, Tryz.ntmps71
    go_wp2
    go_ret
    rw [HS.out]
    exact ⟨rfl, Below.refl _ _⟩


end Go.Proofs.YtdncljdfmdgdaaaGreatDoor

namespace Go.Proofs.YtdncljdfmdgdaaaGreatDoor
open Go.RowKit Go.Shelf Go.WideMaps
set_option linter.unusedSimpArgs false
set_option linter.unusedVariables false

/-- Is a text a token of a kind? -/
def isTok (k : Int) (s : Lx.Bytes) : Bool := (Lx.join [⟨0, k, s, 0⟩]).2 != 1
/-- Chapter 1's names. -/
def NM : Sx.Names := ⟨isTok 1, isTok 2, isTok 5⟩

set_option maxRecDepth 100000 in
set_option maxHeartbeats 1000000 in
theorem synIs (k : Int) (s : Lx.Bytes) (w : World) (hG : GS w) (hN : NG ≤ w.heap.size) (hs : s.length ≤ 1000000000) :
    Calls Tryz.prog 133 #[.int .i64 k, .string ⟨s.toArray⟩] w fun e w' => e = .returned (.bool (isTok k s)) ∧ Below w.heap.size w w' := by
  obtain ⟨w2, hw2⟩ : ∃ w2, w.alloc (.cells #[.int .i64 0, .int .i64 k, .string ⟨s.toArray⟩, .int .i64 0] 133) = w2 := ⟨_, rfl⟩
  have hg : Below w.heap.size w w2 := by rw [← hw2]; exact grown_below (World.grownBy_alloc w _ none)
  have hin : ToksIn w2 (.slice (some ⟨w.heap.size, 0, none⟩) 1 1) [⟨0, k, s, 0⟩] := .inr ⟨w.heap.size, 1, #[.int .i64 0, .int .i64 k, .string ⟨s.toArray⟩, .int .i64 0], (0, 0), rfl, by rw [← hw2]; exact heap_alloc_new w _, rfl⟩
  have hj := lexJoin [⟨0, k, s, 0⟩] _ w2 (hG.below hg) (Nat.le_trans hN hg.size) hin (by simp) (by intro t ht; simp at ht; subst ht; exact ⟨hs, by simp, by simp⟩)
  obtain ⟨r, hr⟩ : ∃ r, Lx.join [⟨0, k, s, 0⟩] = r := ⟨_, rfl⟩
  have hb : isTok k s = (r.2 != 1) := by unfold isTok; rw [hr]
  rw [hr] at hj
  rw [hb]
  have hc : ((r.2 : Int) != 1) = (r.2 != 1) := by rw [Bool.eq_iff_iff]; simp; omega
  have HC := Lib.hid hc
  clear hc
  have HG := Lib.hid hg
  have HJ := Lib.hid hj
  clear hr hb hin hj hg
  go_enter Tryz.func133, Tryz.ntmps133
  go_wp2_with (go_at_call 48; refine HJ.out.mono ?_; rintro e w3 ⟨rfl, h3⟩)
  go_ret
  rw [← HC.out]
  exact ⟨rfl, HG.out.trans (h3.mono HG.out.size)⟩
set_option maxRecDepth 100000 in
theorem synName (s : Lx.Bytes) (w : World) (hG : GS w) (hN : NG ≤ w.heap.size) (hs : s.length ≤ 1000000000) :
    Calls Tryz.prog 132 #[.string ⟨s.toArray⟩] w fun e w' => e = .returned (.bool (NM.small s)) ∧ Below w.heap.size w w' := by
  have hi := synIs 1 s w hG hN hs
  have HI := Lib.hid hi
  clear hi
  go_enter Tryz.func132, Tryz.ntmps132
  go_wp2_with (go_at_call 133; refine HI.out.mono ?_; rintro e w3 ⟨rfl, h3⟩)
  go_ret
  exact ⟨rfl, h3⟩
set_option maxRecDepth 100000 in
theorem synGreat (s : Lx.Bytes) (w : World) (hG : GS w) (hN : NG ≤ w.heap.size) (hs : s.length ≤ 1000000000) :
    Calls Tryz.prog 107 #[.string ⟨s.toArray⟩] w fun e w' => e = .returned (.bool (NM.great s)) ∧ Below w.heap.size w w' := by
  have hi := synIs 2 s w hG hN hs
  have HI := Lib.hid hi
  clear hi
  go_enter Tryz.func107, Tryz.ntmps107
  go_wp2_with (go_at_call 133; refine HI.out.mono ?_; rintro e w3 ⟨rfl, h3⟩)
  go_ret
  exact ⟨rfl, h3⟩
set_option maxRecDepth 100000 in
theorem synBytes (s : Lx.Bytes) (w : World) (hG : GS w) (hN : NG ≤ w.heap.size) (hs : s.length ≤ 1000000000) :
    Calls Tryz.prog 134 #[.string ⟨s.toArray⟩] w fun e w' => e = .returned (.bool (NM.said s)) ∧ Below w.heap.size w w' := by
  have hi := synIs 5 s w hG hN hs
  have HI := Lib.hid hi
  clear hi
  go_enter Tryz.func134, Tryz.ntmps134
  go_wp2_with (go_at_call 133; refine HI.out.mono ?_; rintro e w3 ⟨rfl, h3⟩)
  go_ret
  exact ⟨rfl, h3⟩

theorem Sx.apart_iff (N : Sx.Names) : ∀ l : List Lx.Bytes, Sx.apart N l = true ↔ (∀ s ∈ l, N.small s = true) ∧ l.Nodup
  | [] => by simp [Sx.apart]
  | s :: l => by
    rw [Sx.apart, Bool.and_eq_true, Bool.and_eq_true, Sx.apart_iff N l, List.nodup_cons]
    simp only [Bool.not_eq_true', List.contains_eq_mem, decide_eq_false_iff_not, List.mem_cons, forall_eq_or_imp]
    constructor
    · rintro ⟨a, b, c, d⟩; exact ⟨⟨a, c⟩, b, d⟩
    · rintro ⟨⟨a, c⟩, b, d⟩; exact ⟨a, b, c, d⟩

/-- A map of counts of the call's own. -/
def Counts (b : Nat) (l : List Lx.Bytes) (w : World) : Prop := ∃ n, ∃ D : DataW Unit, n ≤ l.length ∧ w.ownsMap Tryz.prog 9 (plainElem Tryz.prog 3) b n D ∧ Maps.IsMap D ∧ ∀ s, D.atKey (.string s) (.lit (.int .i64 0)) = .lit (.int .i64 (l.count s : Nat))
theorem Counts.kept {b : Nat} {l : List Lx.Bytes} {w w' : World} (h : Counts b l w) (hg : w.grownBy w' none) : Counts b l w' := by
  obtain ⟨n, D, hn, hm, hD, hat⟩ := h
  exact ⟨n, D, hn, hm.kept hg (by simp), hD, hat⟩
theorem Counts.below {b : Nat} {l : List Lx.Bytes} {w w' : World} (h : Counts b l w) (hg : Below w.heap.size w w') : Counts b l w' := h.kept (below_grown hg)
set_option maxRecDepth 100000 in
/-- Looked up. -/
theorem Counts.look {b : Nat} {l : List Lx.Bytes} {w : World} (h : Counts b l w) (s : Lx.Bytes) (hs : s.length ≤ 140737488351232) :
    (Instr.lookup 107 (.map (some b)) (.string ⟨s.toArray⟩) false).run Tryz.prog w = .ok (.int .i64 (l.count s : Nat)) w := by
  obtain ⟨n, D, hn, hm, hD, hat⟩ := h
  have hkey : keyOf Tryz.prog 9 (.string ⟨s.toArray⟩) = some (.string s) := by
    simpa using keyOf_string_mk (P := Tryz.prog) Tryz.underlying9 (s := ⟨s.toArray⟩) (by simp [ByteArray.size, maxLen]; omega)
  obtain ⟨c, hlk, hc, wc⟩ := hm.lookup_int (Maps.string_keyed (P := Tryz.prog) Tryz.underlying9) Tryz.underlying107 Tryz.underlying3 (zeroInt _) hkey
  rw [hat s] at hc
  injection hc with hc
  injection hc with _ hc
  subst hc
  exact hlk
set_option maxRecDepth 100000 in
theorem wpList_count {ops : Array Oper} {rest : List Oper} {o : Oper} {a : Act} {Q : Exit → Act → World → Prop} {b : Nat} {l : List Lx.Bytes} {w : World} (h : Counts b l w) (s : Lx.Bytes) (hs : s.length ≤ 140737488351232) (hl : l.length ≤ 1000000)
    (hg : o.guard = none) (m x v : Operand) (hop : o.op = Op.mapUpdate 107 m x v) (hm : a.eval m = .map (some b)) (hx : a.eval x = .string ⟨s.toArray⟩) {c : Int} (hv : a.eval v = .int .i64 c) (hc : c = (l.count s : Int) + 1)
    (hK : ∀ w', Counts b (l ++ [s]) w' → w.grownBy w' (some b) → wpList Tryz.prog ops Q rest (a.put o.dst undef) w') : wpList Tryz.prog ops Q (o :: rest) a w := by
  obtain ⟨n, D, hn, hown, hD, hat⟩ := h
  have hkey : keyOf Tryz.prog 9 (.string ⟨s.toArray⟩) = some (.string s) := by
    simpa using keyOf_string_mk (P := Tryz.prog) Tryz.underlying9 (s := ⟨s.toArray⟩) (by simp [ByteArray.size, maxLen]; omega)
  have hcl := List.count_le_length (a := s) (l := l)
  refine wpList_mapUpdate_own _ hg m x v 107 hop 9 3 (Maps.string_keyed (P := Tryz.prog) Tryz.underlying9) Tryz.underlying107 _ b n _ hm hown (by unfold maxLen; omega) _ _ _ hx hv hkey _ [] (plainElem_int Tryz.underlying3 (wrapOk c (by omega) (by omega))) ?_
  intro w' h1 h2
  subst hc
  refine hK w' ⟨n + 1, _, by simp; omega, h1, hD.put _ _, fun t => ?_⟩ h2
  rw [List.count_append]
  by_cases hts : t = s
  · subst hts
    rw [Maps.atKey_put_same hD (by trivial)]
    simp
  · rw [Maps.atKey_put_other (by intro e; injection e with e; exact hts e), hat t]
    have : List.count t [s] = 0 := by rw [List.count_eq_zero]; simpa using hts
    rw [this, Nat.add_zero]

set_option maxRecDepth 100000 in
set_option maxHeartbeats 4000000 in
theorem synUnlike (ns : List Lx.Bytes) (v : Value) (w : World) (hG : GS w) (hN : NG ≤ w.heap.size) (hv : StrRow w v ns) (hl : ns.length ≤ 1000000) (hs : ∀ s ∈ ns, s.length ≤ 1000000000) :
    Calls Tryz.prog 108 #[v] w fun e w' => e = .returned (.bool (Sx.apart NM ns)) ∧ Below w.heap.size w w' := by
  have hmm := @run_makeMap Tryz.prog
  obtain ⟨A, c, rfl, hi⟩ := hv
  have hv : StrRow w (.slice A ns.length c) ns := ⟨A, c, rfl, hi⟩
  have HV := Lib.hid hv
  have HG := Lib.hid hG
  have HS := Lib.hid hs
  obtain ⟨L, hL⟩ : ∃ L, w.heap.size = L := ⟨_, rfl⟩
  obtain ⟨w2, hw2⟩ : ∃ w2, w.alloc (.map #[] 0) = w2 := ⟨_, rfl⟩
  have hc0 : Counts L [] w2 := ⟨0, .map [], Nat.le_refl _, by rw [← hw2, ← hL]; exact World.ownsMap_made w _ _ _, Maps.isMap_empty, fun s => rfl⟩
  have hb0 : Below L w w2 := by rw [← hw2, ← hL]; exact grown_below (World.grownBy_alloc w _ none)
  have hl2 : L < w2.heap.size := by rw [← hw2]; simp; omega
  have HC0 := Lib.hid hc0
  have HB0 := Lib.hid hb0
  have HL := Lib.hid hL
  have hNL : NG ≤ L := by omega
  clear hv hi hG hs hc0 hb0
  go_enter Tryz.func108, Tryz.ntmps108
  go_wp2_with fail
  go_loopg [9] (ns.length) (fun i v wr => ∃ (m : Nat), i = ns.length - m ∧ v = .int .i64 (m : Int) ∧ m ≤ ns.length ∧ Counts L (ns.take m) wr ∧ Below L w wr ∧ L < wr.heap.size ∧ (∀ s ∈ ns.take m, NM.small s = true) ∧ (ns.take m).Nodup)
  case atStart => exact ⟨0, rfl, rfl, Nat.zero_le _, HC0.out, HB0.out, hl2, by simp, by simp⟩
  case round =>
    obtain ⟨m, hi, rfl, hm, hC, hb, hlr, hsm, hnd⟩ := hrel
    have HI := Lib.hid hi
    have HC := Lib.hid hC
    have HB := Lib.hid hb
    have HSM := Lib.hid hsm
    have HND := Lib.hid hnd
    have m0 : (0 : Int) ≤ (m : Int) := by omega
    clear hi hC hb hsm hnd
    by_cases hlt : m < ns.length
    · have hmi : (m : Int) < (ns.length : Int) := by omega
      obtain ⟨g, off, rfl, hsp⟩ := HV.out.spot m hlt
      obtain ⟨q0, q1⟩ := hsp wr (by rw [HL.out]; exact HB.out)
      have htk := List.take_succ_eq_append_getElem hlt
      have hmem := List.getElem_mem hlt
      obtain ⟨s, hse⟩ : ∃ s, ns[m]'hlt = s := ⟨_, rfl⟩
      rw [hse] at q1 htk hmem
      have hsl := HS.out s hmem
      have hlk := HC.out.look s (by omega)
      obtain ⟨k, hk⟩ : ∃ k, (ns.take m).count s = k := ⟨_, rfl⟩
      have hkl : k ≤ 1000000 := by have := List.count_le_length (a := s) (l := ns.take m); simp at this; omega
      have hki : (k : Int) ≤ 1000000 := by omega
      have hk0 : (0 : Int) ≤ (k : Int) := by omega
      rw [hk] at hlk
      have HTK := Lib.hid htk
      have HK := Lib.hid hk
      have HMEM := Lib.hid hmem
      clear htk hk hmem hsp hse
      go_wp2_with (at_mapUpdate; refine wpList_count HC.out s (by omega) (by simp; omega) rfl _ _ _ rfl rfl rfl rfl (by rw [HK.out]) ?_)
      intro w3 hC3 hg3
      have hb3 : Below L w w3 := HB.out.grown hg3 (by omega) (fun j e => by injection e with e; omega)
      have hG3 := HG.out.below (by rw [HL.out]; exact hb3)
      have hlk3 := hC3.look s (by omega)
      have hct : (ns.take m ++ [s]).count s = k + 1 := by rw [List.count_append, HK.out]; simp
      rw [hct] at hlk3
      have hsz3 := hg3.size
      have hname := synName s w3 hG3 (by omega) hsl
      have HG3 := Lib.hid hg3
      have HC3 := Lib.hid hC3
      have HB3 := Lib.hid hb3
      have HNM := Lib.hid hname
      obtain ⟨kk, hkk⟩ : ∃ kk, k + 1 = kk := ⟨_, rfl⟩
      rw [hkk] at hlk3
      have HKK := Lib.hid hkk
      clear hg3 hC3 hb3 hG3 hct hname hlk hkk
      by_cases hz : k = 0
      · have hgt : decide ((1 : Int) < (kk : Int)) = false := by simp; have := HKK.out; omega
        have hgt2 : ¬ (1 : Int) < (kk : Int) := by have := HKK.out; omega
        have HZ := Lib.hid hz
        clear hz
        cases hsmall : NM.small s with
        | true =>
          rw [hsmall] at HNM
          have HSMALL := Lib.hid hsmall
          clear hsmall
          go_wp2_with (go_at_call 132; refine HNM.out.mono ?_; rintro e w4 ⟨rfl, hb4⟩)
          go_roundg (ns.length - (m + 1))
          case measure => have := HI.out; omega
          case rel =>
            refine ⟨m + 1, rfl, by simp, hlt, ?_, HB3.out.trans (hb4.mono (by omega)), Nat.lt_of_lt_of_le (by omega) hb4.size, ?_, ?_⟩
            · rw [HTK.out]; exact HC3.out.below hb4
            · rw [HTK.out]
              intro t ht
              rcases List.mem_append.1 ht with h | h
              · exact HSM.out t h
              · rw [List.mem_singleton] at h; rw [h]; exact HSMALL.out
            · rw [HTK.out, List.nodup_append]
              refine ⟨HND.out, by simp, ?_⟩
              intro a ha b hb hab
              rw [List.mem_singleton] at hb
              subst hb hab
              have := List.count_eq_zero.1 (HK.out.trans HZ.out)
              exact this ha
        | false =>
          rw [hsmall] at HNM
          have HF := Lib.hid (show Sx.apart NM ns = false by
            cases h : Sx.apart NM ns with
            | false => rfl
            | true => have := ((Sx.apart_iff _ _).1 h).1 s HMEM.out; rw [hsmall] at this; cases this)
          clear hsmall
          go_wp2_with (go_at_call 132; refine HNM.out.mono ?_; rintro e w4 ⟨rfl, hb4⟩)
          go_ret
          rw [HF.out, HL.out]
          exact ⟨rfl, HB3.out.trans (hb4.mono (by omega))⟩
      · have hgt : decide ((1 : Int) < (kk : Int)) = true := by simp; have := HKK.out; omega
        have hgt2 : (1 : Int) < (kk : Int) := by have := HKK.out; omega
        have HF := Lib.hid (show Sx.apart NM ns = false by
          cases h : Sx.apart NM ns with
          | false => rfl
          | true =>
            have hn := ((Sx.apart_iff _ _).1 h).2
            have h2 : (ns.take m ++ [s]).Nodup := by rw [← HTK.out]; exact hn.sublist (List.take_sublist _ _)
            rw [List.nodup_append] at h2
            have h3 : s ∈ ns.take m := Decidable.byContradiction fun hne => by
              have := List.count_eq_zero.2 hne
              have := HK.out
              omega
            exact absurd rfl (h2.2.2 s h3 s (by simp)))
        go_wp2_with fail
        go_ret
        rw [HF.out, HL.out]
        exact ⟨rfl, HB3.out⟩
    · have hmi : ¬ (m : Int) < (ns.length : Int) := by omega
      have HT := Lib.hid (show Sx.apart NM ns = true by
        rw [Sx.apart_iff]
        have h1 := HSM.out
        have h2 := HND.out
        rw [List.take_of_length_le (by omega)] at h1 h2
        exact ⟨h1, h2⟩)
      go_wp2_with fail
      go_ret
      rw [HT.out]
      exact ⟨rfl, HB.out⟩

end Go.Proofs.YtdncljdfmdgdaaaGreatDoor

namespace Go.Proofs.YtdncljdfmdgdaaaGreatDoor
open Go.RowKit Go.Shelf Go.WideMaps
set_option linter.unusedSimpArgs false
set_option linter.unusedVariables false

theorem Sx.shape_kind {N : Sx.Names} {k : Int} {n : Lx.Bytes} {ns : List Lx.Bytes} {es : List Bool} {ps : List Sx.Ty} (h : Sx.shape N k n ns es ps = true) : k = 1 ∨ k = 2 ∨ k = 3 ∨ k = 4 ∨ k = 5 ∨ k = 6 ∨ k = 7 ∨ k = 8 := by
  unfold Sx.shape at h
  split at h
  · omega
  · split at h
    · omega
    · split at h
      · omega
      · split at h
        · omega
        · split at h
          · omega
          · split at h
            · omega
            · cases h
theorem synTypAll (N : Sx.Names) (hN : Sx.NamesOk N) (W0 : World) (b : Nat) : ∀ (n : Nat) (t : Sx.Ty), Sx.size t ≤ n → TypOk N W0 b t ∧ SigOk N W0 b t := by
  intro n
  induction n with
  | zero => intro t h; have := Sx.size_pos t; omega
  | succ n ih =>
    intro t hn
    have hp : ∀ p ∈ t.parts, TypOk N W0 b p ∧ SigOk N W0 b p := by
      intro p hp
      refine ih p ?_
      have := Sx.size_mem hp
      have := Sx.size_parts t
      omega
    have hsig := synSig N W0 b t (fun p h => (hp p h).1)
    refine ⟨?_, hsig⟩
    intro d v c l w hr ht h hc
    obtain ⟨d', hd, hr', hsh⟩ := Sx.right_parts hr
    rcases Sx.shape_kind hsh with hk | hk | hk | hk | hk | hk | hk | hk
    · exact synTyp1 N hN W0 b t hk d v c l w hr ht h hc
    · exact synTyp2 N hN W0 b t hk d v c l w hr ht h hc
    · exact synTyp3 N hN W0 b t hk d v c l w hr ht h hc
    · exact synTyp4 N hN W0 b t hk d v c l w hr ht h hc
    · exact synTyp5 N hN W0 b t (fun p h => (hp p h).1) hk d v c l w hr ht h hc
    · exact synTyp6 N hN W0 b t (fun p h => (hp p h).1) hk d v c l w hr ht h hc
    · exact synTyp7 N hN W0 b t hsig hk d v c l w hr ht h hc
    · exact synTyp8 N hN W0 b t (fun p h => (hp p h).2) hk d v c l w hr ht h hc

end Go.Proofs.YtdncljdfmdgdaaaGreatDoor
