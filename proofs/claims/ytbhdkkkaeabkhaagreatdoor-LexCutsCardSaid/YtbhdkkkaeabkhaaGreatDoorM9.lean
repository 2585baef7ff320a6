/-
  The walk of (*Refusal).Unwrap.
  errors.Is at a refusal and its number. (The lines of the worked proof SentryIs, turned to this program's numbers.)
  strings.Builder's writing methods, walked at this program's own library (its copyCheck is a later one than the shelf's).
  The walk of Quote.
  The walk of written.
-/
import Derived.Test.YtbhdkkkaeabkhaaGreatDoorM6
import Derived.Test.YtbhdkkkaeabkhaaGreatDoorM8
import Derived.Test.YtbhdkkkaeabkhaaGreatDoorM4
import Derived.Test.YtbhdkkkaeabkhaaGreatDoorShelf
import Derived.RangeFuncBox
import Derived.Test.YtbhdkkkaeabkhaaGreatDoorM7
import Derived.Lib.AppendIntMem
namespace Go.Proofs.YtbhdkkkaeabkhaaGreatDoor
open Go.RowKit Go.Shelf

theorem lexUnwrap (g : Nat) (p y : Int) (w : World) (hR : IsRef w g p y) :
    Calls Tryz.prog 148 #[.pointer (some ⟨g, 0, none⟩)] w fun e w' => e = .returned (.iface 36 (.int .i64 y)) ∧ w' = w := by
  have c1 : w.cell? ⟨g, 1, none⟩ = some (.int .i64 y) := cell_of hR 1
  clear hR
  go_enter Tryz.func148, Tryz.ntmps148
  go_wp2
  go_ret
  exact ⟨rfl, rfl⟩

end Go.Proofs.YtbhdkkkaeabkhaaGreatDoor

namespace Go.Proofs.YtbhdkkkaeabkhaaGreatDoor
open Go.RowKit Go.Extern.Stop Go.Stop Go.Extern
set_option linter.unusedSimpArgs false
set_option linter.unusedVariables false

theorem run_equalIn_iface_int {P : Program} (w : World) (d : Nat) {ti tn : TypeId} {ms : Array (String × TypeId)} {i : TypeInfo} {k : IntKind} (a b : Int)
    (hi : P.underlying ti = some (.interface ms)) (hn : P.underlying tn = some (.int k)) (hinfo : P.info? tn = some i) (hcomp : i.comparable = true) :
    (Op.equalIn (d + 2) ti (.iface tn (.int k a)) (.iface tn (.int k b))).run P w = .ok (a == b) w := by
  simp [Op.equalIn, run_underlying hi, run_underlying hn, typeInfo, hinfo, hcomp]
theorem run_eql_iface_int {P : Program} (w : World) {ti tn : TypeId} {ms : Array (String × TypeId)} {i : TypeInfo} {k : IntKind} (a b : Int)
    (hi : P.underlying ti = some (.interface ms)) (hn : P.underlying tn = some (.int k)) (hinfo : P.info? tn = some i) (hcomp : i.comparable = true) :
    (binOp .eql ti (.iface tn (.int k a)) (.iface tn (.int k b))).run P w = .ok (.bool (a == b)) w := by
  simp only [binOp]
  simp [Op.equal, Op.maxDepth, run_equalIn_iface_int w 9998 a b hi hn hinfo hcomp]

theorem is_typeOf (v : Value) (w : World) : (Extern.ReflectliteType.typeOf #[.iface 36 v]).run Tryz.prog w = .ok (.iface 127 (.agg #[.pointer (some ⟨10, 36, none⟩)])) w := by kernel_rfl
theorem is_comparable (w : World) : ((Extern.ReflectliteType.method fun t => do Extern.Rtype.noPackHeld "Comparable" t; (fun a => Value.bool a.comparable) <$> typeInfo t) #[.agg #[.pointer (some ⟨10, 36, none⟩)]]).run Tryz.prog w = .ok (.bool true) w := by kernel_rfl
theorem is_methodComparable (v : Value) (w : World) : (Go.method 319 127 v "Comparable").run Tryz.prog w = .ok (155, v) w := by kernel_rfl
theorem is_comp : (Tryz.prog.info? 36).map (·.comparable) = some true := by kernel_rfl
theorem is_noIsR (v : Value) (xT : TypeId) (w : World) : (Instr.typeAssert (.iface 74 v) xT 139 true).run Tryz.prog w = .ok (.tuple #[.nilIface, .bool false]) w := run_typeAssert_lacksB Tryz.underlying139 (by kernel_rfl) (by kernel_rfl) v xT w
theorem is_hasUnwrapR (v : Value) (xT : TypeId) (w : World) : (Instr.typeAssert (.iface 74 v) xT 134 true).run Tryz.prog w = .ok (.tuple #[.iface 74 v, .bool true]) w := run_typeAssert_hasB Tryz.underlying134 (by kernel_rfl) v xT w
theorem is_methodUnwrap (v : Value) (w : World) : (Go.method 319 74 v "Unwrap").run Tryz.prog w = .ok (148, v) w := by kernel_rfl

set_option maxHeartbeats 4000000 in
set_option maxRecDepth 100000 in
theorem is_hit (g : Nat) (p y : Int) (w : World) (hR : IsRef w g p y) :
    Calls Tryz.prog 43 #[.iface 74 (.pointer (some ⟨g, 0, none⟩)), .iface 36 (.int .i64 y)] w fun e w' => e = .returned (.bool true) ∧ w' = w := by
  obtain ⟨i, hi, hcmp⟩ := Option.map_eq_some_iff.1 is_comp
  have h8 := @run_callFunc_extern Tryz.prog 66 _ Extern.ReflectliteType.typeOf Tryz.func66 (by kernel_rfl) (by kernel_rfl) (by kernel_rfl) (by kernel_rfl)
  have h32 := @run_callFunc_extern Tryz.prog 155 _ (Extern.ReflectliteType.method fun t => do Extern.Rtype.noPackHeld "Comparable" t; pure (.bool (← typeInfo t).comparable)) Tryz.func155 (by kernel_rfl) (by kernel_rfl) (by kernel_rfl) (by kernel_rfl)
  have tT := is_typeOf
  have cT := is_comparable
  have mR := is_methodComparable
  have nW := is_noIsR
  have uW := is_hasUnwrapR
  have mU := is_methodUnwrap
  have heq := run_eql_iface_int (P := Tryz.prog) w (k := .i64) y y Tryz.underlying32 Tryz.underlying36 hi hcmp
  have hty := run_eql_iface_types (P := Tryz.prog) 74 36 (.pointer (some ⟨g, 0, none⟩)) (.int .i64 y) Tryz.underlying32 (by decide) w
  have c1 : w.cell? ⟨g, 1, none⟩ = some (.int .i64 y) := cell_of hR 1
  clear hR
  go_enter Tryz.func43, Tryz.ntmps43
  go_wp2
  refine wp_loop_rounds 2 ?_
  rw [rounds_succ]
  go_wp2
  rw [rounds_succ]
  go_wp2
  go_ret
  exact ⟨rfl, rfl⟩

end Go.Proofs.YtbhdkkkaeabkhaaGreatDoor

namespace Go.Proofs.YtbhdkkkaeabkhaaGreatDoor
open Go.RowKit Go.Shelf
set_option linter.unusedSimpArgs false
set_option linter.unusedVariables false

theorem infoBld : (Tryz.prog.info? 86).map (·.size) = some 2 := by kernel_rfl
theorem liesBld : liesAt Tryz.prog Tryz.prog.depth 86 (2 / Tryz.prog.cellsOf 86) 0 86 1 = true := by kernel_rfl

set_option maxRecDepth 100000 in
set_option maxHeartbeats 1000000 in
theorem bldUsed (b : Nat) (w : World) (h0 : w.cell? ⟨b, 0, none⟩ = some (.pointer (some ⟨b, 0, none⟩))) :
    Calls Tryz.prog 69 #[.pointer (some ⟨b, 0, none⟩)] w fun e w' => e = .returned (.tuple #[]) ∧ w' = w := by
  obtain ⟨j, hj, _⟩ := Option.map_eq_some_iff.1 infoBld
  go_enter Tryz.func69, Tryz.ntmps69
  go_wp2
  rw [Lib.run_neq_ptr_same w _ Tryz.underlying84 hj]
  go_wp2
  go_end0
  exact ⟨rfl, rfl⟩

set_option maxRecDepth 100000 in
set_option maxHeartbeats 1000000 in
theorem bldFresh (b : Nat) (w : World) (h0 : w.cell? ⟨b, 0, none⟩ = some (.pointer none)) (hsh : w.shape? b = some (86, 2)) (hfz : w.frozen? ⟨b, 0, none⟩ = false) :
    Calls Tryz.prog 69 #[.pointer (some ⟨b, 0, none⟩)] w fun e w' => e = .returned (.tuple #[]) ∧ w' = w.setCell ⟨b, 0, none⟩ (.pointer (some ⟨b, 0, none⟩)) := by
  obtain ⟨j, hj, hjs⟩ := Option.map_eq_some_iff.1 infoBld
  go_enter Tryz.func69, Tryz.ntmps69
  go_wp2
  rw [Lib.run_to_unsafe w ⟨b, 0, none⟩ Tryz.underlying84 Tryz.underlying105 hj (by rw [hjs]; decide) hsh (Nat.zero_lt_succ 1)]
  simp only [Result.andThen]
  rw [Oper.upon_value]
  go_wp2
  rw [run_callFunc_extern Tryz.func93 (by kernel_rfl) (by kernel_rfl) (by kernel_rfl) (e := Extern.AbiNoEscape.same) (by kernel_rfl)]
  rw [Lib.run_noEscape]
  simp only [Result.andThen]
  rw [Oper.upon_value]
  go_wp2
  rw [Lib.run_from_unsafe w ⟨b, 0, none⟩ Tryz.underlying105 Tryz.underlying84 hj hsh liesBld]
  simp only [Result.andThen]
  rw [Oper.upon_value]
  go_wp2
  go_end0
  exact ⟨rfl, rfl⟩

/-- A builder of the call's own: its bytes. -/
def Bld (B b : Nat) (l : List UInt8) (w : World) : Prop := Lib.IsBuilder 86 5 B b (Lib.byteCells l) w

theorem bldCheck (B b : Nat) (l : List UInt8) (w : World) (h : Bld B b l w) :
    Calls Tryz.prog 69 #[.pointer (some ⟨b, 0, none⟩)] w fun e w' => e = .returned (.tuple #[]) ∧ (Lib.BuilderAt 86 5 B b (.pointer (some ⟨b, 0, none⟩)) (Lib.byteCells l) w' ∧ Below B w w') := by
  rcases h with h | h
  · refine (bldFresh b w h.cell0 h.shape h.frozen0).mono ?_
    rintro e w' ⟨rfl, rfl⟩
    exact ⟨rfl, h.used _, (Below.refl B w).setCell (p := ⟨b, 0, none⟩) h.1 _⟩
  · refine (bldUsed b w h.cell0).mono ?_
    rintro e w' ⟨rfl, rfl⟩
    exact ⟨rfl, h, Below.refl B _⟩
theorem byteCells_length (l : List UInt8) : (Lib.byteCells l).length = l.length := by simp [Lib.byteCells]

set_option maxHeartbeats 2000000 in
set_option maxRecDepth 100000 in
theorem bldByte (B b : Nat) (l : List UInt8) (c : UInt8) (w : World) (h : Bld B b l w) (hlen : l.length + 1 ≤ 140737488355328) (hBw : B ≤ w.heap.size) :
    Calls Tryz.prog 46 #[.pointer (some ⟨b, 0, none⟩), .int .u8 (c.toNat : Int)] w fun e w' => e = .returned .nilIface ∧ Bld B b (l ++ [c]) w' ∧ Below B w w' := by
  obtain ⟨i0, hi, hz0, hz1, hz2⟩ := info_parts infoU8
  have hll := byteCells_length l
  go_enter Tryz.func46, Tryz.ntmps46
  go_wp2_with (go_at_call 69; refine (bldCheck B b l _ h).mono ?_)
  rintro e w1 ⟨rfl, h1, hb1⟩
  obtain ⟨hB, v, hbk, hown, hne⟩ := h1
  have hlt : b < w1.heap.size := lt_of_block hbk
  have c0 : w1.cell? ⟨b, 0, none⟩ = some (.pointer (some ⟨b, 0, none⟩)) := by rw [Lib.cell_of_heap hbk]; rfl
  have c1 : w1.cell? ⟨b, 1, none⟩ = some v := by rw [Lib.cell_of_heap hbk]; rfl
  have hsz := hb1.size
  go_wp2_with (at_builtin; refine wpList_append_own _ rfl _ _ 66 rfl B 5 i0 (.int .u8 0) 1 1 Tryz.underlying66 hi hz0 hz1 hz2 rfl (by decide) _ _ _ rfl (hown.alloc _) ⟨w1.heap.size, 0, none⟩ 1 1 [.int .u8 (c.toNat : Int)] rfl rfl (cell_one_new _ _ _) (by simp [Value.oneCell']) (by unfold maxLen; omega) (by omega) (by simp; omega) ?_)
  intro v' w2 hown' hgrow _
  have hb2 : w2.heap[b]? = some (.cells #[.pointer (some ⟨b, 0, none⟩), v] 86 (0, 0)) := by
    rw [hgrow.block b (by simp; omega) (fun e => hne e.symm), Lib.alloc_old w1 _ b hlt]
    exact hbk
  have d0 : w2.cell? ⟨b, 0, none⟩ = some (.pointer (some ⟨b, 0, none⟩)) := by rw [Lib.cell_of_heap hb2]; rfl
  have d1 : w2.cell? ⟨b, 1, none⟩ = some v := by rw [Lib.cell_of_heap hb2]; rfl
  have f1 : w2.frozen? ⟨b, 1, none⟩ = false := Lib.frozen_of_heap hb2 1
  obtain ⟨g, cap, rfl⟩ := ownsRow_succ hown'
  go_wp2
  go_ret
  refine ⟨rfl, .inr ?_, ?_⟩
  · have e : Lib.byteCells (l ++ [c]) = Lib.byteCells l ++ [.int .u8 (c.toNat : Int)] := by simp [Lib.byteCells]
    rw [e]
    exact Lib.BuilderAt.put (T := 86) (e := 5) hB hb2 (bs' := Lib.byteCells l ++ [.int .u8 (c.toNat : Int)]) (by rw [show (Lib.byteCells l ++ [Value.int .u8 (c.toNat : Int)]).length = l.length + 1 from by simp [byteCells_length]]; exact hown') (by decide)
  · exact ((hb1.alloc (by omega) _).grown hgrow (by simp; omega) (fun k hk => (hown.lt k hk).1)).setCell (p := ⟨b, 1, none⟩) hB _

set_option maxHeartbeats 2000000 in
set_option maxRecDepth 100000 in
theorem bldStr (B b : Nat) (l : List UInt8) (s : ByteArray) (w : World) (h : Bld B b l w) (hlen : l.length + s.size ≤ 140737488355328) (hBw : B ≤ w.heap.size) :
    Calls Tryz.prog 47 #[.pointer (some ⟨b, 0, none⟩), .string s] w fun e w' => e = .returned (.tuple #[.int .i64 s.size, .nilIface]) ∧ Bld B b (l ++ s.data.toList) w' ∧ Below B w w' := by
  obtain ⟨i0, hi, hz0, hz1, hz2⟩ := info_parts infoU8
  have hll := byteCells_length l
  go_enter Tryz.func47, Tryz.ntmps47
  go_wp2_with (go_at_call 69; refine (bldCheck B b l _ h).mono ?_)
  rintro e w1 ⟨rfl, h1, hb1⟩
  obtain ⟨hB, v, hbk, hown, hne⟩ := h1
  have hlt : b < w1.heap.size := lt_of_block hbk
  have c0 : w1.cell? ⟨b, 0, none⟩ = some (.pointer (some ⟨b, 0, none⟩)) := by rw [Lib.cell_of_heap hbk]; rfl
  have c1 : w1.cell? ⟨b, 1, none⟩ = some v := by rw [Lib.cell_of_heap hbk]; rfl
  have hsz := hb1.size
  go_wp2_with (at_builtin; refine Lib.wpList_append_own_string (P := Tryz.prog) (w := w1) rfl _ _ 66 9 rfl B 5 i0 Tryz.underlying66 Tryz.underlying9 hi hz0 hz1 hz2 _ _ _ rfl hown s rfl (by unfold maxLen; omega) (by omega) (by omega) ?_)
  intro v' w2 hown' hgrow _
  have hb2 : w2.heap[b]? = some (.cells #[.pointer (some ⟨b, 0, none⟩), v] 86 (0, 0)) := by
    rw [hgrow.block b hlt (fun e => hne e.symm)]
    exact hbk
  have d0 : w2.cell? ⟨b, 0, none⟩ = some (.pointer (some ⟨b, 0, none⟩)) := by rw [Lib.cell_of_heap hb2]; rfl
  have d1 : w2.cell? ⟨b, 1, none⟩ = some v := by rw [Lib.cell_of_heap hb2]; rfl
  have f1 : w2.frozen? ⟨b, 1, none⟩ = false := Lib.frozen_of_heap hb2 1
  obtain ⟨A0, cap, rfl⟩ : ∃ A c, v' = .slice A (l.length + s.size) c := by
    rcases hown'.2 with ⟨rfl, h0⟩ | ⟨g, cap, cur, rfl, _⟩
    · exact ⟨none, 0, by rw [h0]⟩
    · exact ⟨_, cap, rfl⟩
  go_wp2
  refine bodyPost_ret (results_tmp2 rfl _ _ _) rfl ?_
  refine ⟨rfl, .inr ?_, ?_⟩
  · have e : Lib.byteCells (l ++ s.data.toList) = Lib.byteCells l ++ Lib.strCells s := by simp [Lib.byteCells, Lib.strCells]
    rw [e]
    exact Lib.BuilderAt.put (T := 86) (e := 5) hB hb2 (bs' := Lib.byteCells l ++ Lib.strCells s) (by rw [show (Lib.byteCells l ++ Lib.strCells s).length = l.length + s.size from hown'.1.trans (Nat.mul_one _)]; exact hown') (by decide)
  · exact (hb1.grown hgrow (by omega) (fun k hk => (hown.lt k hk).1)).setCell (p := ⟨b, 1, none⟩) hB _

end Go.Proofs.YtbhdkkkaeabkhaaGreatDoor

namespace Go.Proofs.YtbhdkkkaeabkhaaGreatDoor
open Go.RowKit Go.Shelf
set_option linter.unusedSimpArgs false
set_option linter.unusedVariables false

namespace Lx
def esc (c : UInt8) : Bytes := if c.toNat == 10 then [92, 110] else if c.toNat == 34 || c.toNat == 92 then [92, c] else [c]
theorem quoteIn_cons (c : UInt8) (t : Bytes) : quoteIn (c :: t) = esc c ++ quoteIn t := rfl
theorem quoteIn_append : ∀ (l k : Bytes), quoteIn (l ++ k) = quoteIn l ++ quoteIn k
  | [], k => rfl
  | c :: t, k => by rw [List.cons_append, quoteIn_cons, quoteIn_cons, quoteIn_append t k, List.append_assoc]
theorem esc_len (c : UInt8) : (esc c).length ≤ 2 := by
  unfold esc
  split
  · simp
  · split <;> simp
theorem quoteIn_len : ∀ (l : Bytes), (quoteIn l).length ≤ 2 * l.length
  | [] => by simp [quoteIn]
  | c :: t => by
    rw [quoteIn_cons, List.length_append]
    have := esc_len c
    have := quoteIn_len t
    simp
    omega
end Lx

theorem take_one (s : ByteArray) (m : Nat) (h : m < s.size) : s.data.toList.take (m + 1) = s.data.toList.take m ++ [s[m]] := by
  have := take_grow s 0 m (Nat.zero_le _) h
  simpa using this

set_option maxHeartbeats 4000000 in
set_option maxRecDepth 100000 in
theorem lexQuote (s : ByteArray) (w : World) (hs : s.size ≤ 70368744177600) :
    Calls Tryz.prog 68 #[.string s] w fun e w' => e = .returned (.string ⟨(Lx.quote s.data.toList).toArray⟩) ∧ Below w.heap.size w w' := by
  go_enter Tryz.func68, Tryz.ntmps68
  have h0 : Bld w.heap.size w.heap.size [] (w.alloc (.cells #[.pointer none, .slice none 0 0] 86)) := Lib.fresh_isBuilder _ _ _
  have hb0 : Below w.heap.size w (w.alloc (.cells #[.pointer none, .slice none 0 0] 86)) := (Below.refl _ w).alloc (Nat.le_refl _) _
  go_wp2_with (go_at_call 46; refine (bldByte w.heap.size w.heap.size [] 34 _ h0 (by decide) hb0.size).mono ?_; rintro e w1 ⟨rfl, h1, hb1'⟩; have hb1 := hb0.trans hb1'; clear hb1')
  have H1 := Lib.hid h1
  have HB1 := Lib.hid hb1
  clear h1 hb1 h0 hb0
  go_loopg [8] (s.size) (fun n v wr => ∃ m : Nat, n = s.size - m ∧ v = .int .i64 (m : Int) ∧ m ≤ s.size ∧ Bld w.heap.size w.heap.size (34 :: Lx.quoteIn (s.data.toList.take m)) wr ∧ Below w.heap.size w wr)
  case atStart => exact ⟨0, rfl, rfl, Nat.zero_le _, H1.out, HB1.out⟩
  case round =>
    obtain ⟨m, hn, rfl, hm, hB, hb⟩ := hrel
    have HN := Lib.hid hn
    clear hn H1 HB1
    by_cases hlt : m < s.size
    · have hi : (m : Int) < (s.size : Int) := by omega
      have hi0 : (0 : Int) ≤ (m : Int) := by omega
      have hmi : (m : Int) ≤ 70368744177600 := by omega
      obtain ⟨c, hc⟩ : ∃ c, c = s[m]'hlt := ⟨_, rfl⟩
      obtain ⟨l, hl⟩ : ∃ l, 34 :: Lx.quoteIn (s.data.toList.take m) = l := ⟨_, rfl⟩
      have hll : l.length ≤ 2 * s.size + 1 := by
        rw [← hl]
        have := Lx.quoteIn_len (s.data.toList.take m)
        simp only [List.length_cons, List.length_take, len_size] at this ⊢
        omega
      have HT := Lib.hid (take_one s m hlt)
      have HL := Lib.hid hl
      have HC := Lib.hid hc
      rw [hl] at hB
      clear hl hc
      have hsz := hb.size
      have hfin : ∀ w', Bld w.heap.size w.heap.size (l ++ Lx.esc (s[m]'hlt)) w' → Bld w.heap.size w.heap.size (34 :: Lx.quoteIn (s.data.toList.take (m + 1))) w' := by
        intro w' h
        rw [HT.out, Lx.quoteIn_append, ← List.cons_append, HL.out]
        have e : Lx.quoteIn [s[m]'hlt] = Lx.esc (s[m]'hlt) := by rw [Lx.quoteIn_cons]; simp [Lx.quoteIn]
        rw [e]
        exact h
      by_cases h10 : (s[m]'hlt).toNat = 10
      · have B10 : (((s[m]'hlt).toNat : Int) == 10) = true := by simp; omega
        have he : Lx.esc (s[m]'hlt) = [92, 110] := by simp [Lx.esc, h10]
        rw [he] at hfin
        clear h10 he
        go_wp2_with (go_at_call 47; refine (bldStr w.heap.size w.heap.size l ⟨#[92, 110]⟩ _ hB (by show l.length + 2 ≤ _; omega) hsz).mono ?_; rintro e w2 ⟨rfl, h2, hb2'⟩; have hb2 := hb.trans hb2'; clear hb2')
        go_roundg (s.size - (m + 1))
        case measure => have := HN.out; omega
        case rel => exact ⟨m + 1, rfl, by simp, hlt, hfin _ h2, hb2⟩
      · have B10 : (((s[m]'hlt).toNat : Int) == 10) = false := by simp; omega
        by_cases hq : (s[m]'hlt).toNat = 34 ∨ (s[m]'hlt).toNat = 92
        · have he : Lx.esc (s[m]'hlt) = [92, s[m]'hlt] := by simp [Lx.esc, h10, hq]
          rw [he] at hfin
          have hstep : ∀ (w2 : World), Bld w.heap.size w.heap.size (l ++ [92]) w2 → Below w.heap.size w w2 → Calls Tryz.prog 46 #[.pointer (some ⟨w.heap.size, 0, none⟩), .int .u8 ((s[m]'hlt).toNat : Int)] w2 fun e w' => e = .returned .nilIface ∧ Bld w.heap.size w.heap.size (l ++ [92, s[m]'hlt]) w' ∧ Below w.heap.size w w' := fun w2 h2 hb2 =>
            (bldByte w.heap.size w.heap.size (l ++ [92]) (s[m]'hlt) w2 h2 (by simp; omega) hb2.size).mono fun e w' h => ⟨h.1, by simpa using h.2.1, hb2.trans h.2.2⟩
          have hstep1 : Calls Tryz.prog 46 #[.pointer (some ⟨w.heap.size, 0, none⟩), .int .u8 92] wr fun e w' => e = .returned .nilIface ∧ Bld w.heap.size w.heap.size (l ++ [92]) w' ∧ Below w.heap.size w w' :=
            (bldByte w.heap.size w.heap.size l 92 wr hB (by omega) hsz).mono fun e w' h => ⟨h.1, h.2.1, hb.trans h.2.2⟩
          by_cases h34 : (s[m]'hlt).toNat = 34
          · have B34 : (((s[m]'hlt).toNat : Int) == 34) = true := by simp; omega
            clear h10 hq h34 he
            go_wp2_with (first | (go_at_call 46; refine hstep1.mono ?_; clear hstep1; rintro e w2 ⟨rfl, h2, hb2⟩) | (go_at_call 46; refine (hstep w2 h2 hb2).mono ?_; clear hstep; rintro e w3 ⟨rfl, h3, hb3⟩))
            go_roundg (s.size - (m + 1))
            case measure => have := HN.out; omega
            case rel => exact ⟨m + 1, rfl, by simp, hlt, hfin _ h3, hb3⟩
          · have B34 : (((s[m]'hlt).toNat : Int) == 34) = false := by simp; omega
            have B92 : (((s[m]'hlt).toNat : Int) == 92) = true := by simp; omega
            clear h10 hq h34 he
            go_wp2_with (first | (go_at_call 46; refine hstep1.mono ?_; clear hstep1; rintro e w2 ⟨rfl, h2, hb2⟩) | (go_at_call 46; refine (hstep w2 h2 hb2).mono ?_; clear hstep; rintro e w3 ⟨rfl, h3, hb3⟩))
            go_roundg (s.size - (m + 1))
            case measure => have := HN.out; omega
            case rel => exact ⟨m + 1, rfl, by simp, hlt, hfin _ h3, hb3⟩
        · have B34 : (((s[m]'hlt).toNat : Int) == 34) = false := by simp; omega
          have B92 : (((s[m]'hlt).toNat : Int) == 92) = false := by simp; omega
          have he : Lx.esc (s[m]'hlt) = [s[m]'hlt] := by simp [Lx.esc, h10, hq]
          rw [he] at hfin
          have hstep : Calls Tryz.prog 46 #[.pointer (some ⟨w.heap.size, 0, none⟩), .int .u8 ((s[m]'hlt).toNat : Int)] wr fun e w' => e = .returned .nilIface ∧ Bld w.heap.size w.heap.size (l ++ [s[m]'hlt]) w' ∧ Below w.heap.size w w' :=
            (bldByte w.heap.size w.heap.size l (s[m]'hlt) wr hB (by omega) hsz).mono fun e w' h => ⟨h.1, h.2.1, hb.trans h.2.2⟩
          clear h10 hq he
          go_wp2_with (go_at_call 46; refine hstep.mono ?_; clear hstep; rintro e w3 ⟨rfl, h3, hb3⟩)
          go_roundg (s.size - (m + 1))
          case measure => have := HN.out; omega
          case rel => exact ⟨m + 1, rfl, by simp, hlt, hfin _ h3, hb3⟩
    · have hme : m = s.size := by omega
      have hi : ¬ (m : Int) < (s.size : Int) := by omega
      have hq : 34 :: Lx.quoteIn (s.data.toList.take m) ++ [34] = Lx.quote s.data.toList := by
        rw [hme, List.take_of_length_le (by rw [len_size]; exact Nat.le_refl _)]; rfl
      have hl2 := Lx.quoteIn_len (s.data.toList.take m)
      rw [List.length_take, len_size] at hl2
      have hstep : Calls Tryz.prog 46 #[.pointer (some ⟨w.heap.size, 0, none⟩), .int .u8 34] wr fun e w' => e = .returned .nilIface ∧ Bld w.heap.size w.heap.size (Lx.quote s.data.toList) w' ∧ Below w.heap.size w w' :=
        (bldByte w.heap.size w.heap.size _ 34 wr hB (by simp; omega) hb.size).mono fun e w' h => ⟨h.1, by rw [← hq]; exact h.2.1, hb.trans h.2.2⟩
      clear hq hme hB
      go_wp2_with (first | (go_at_call 46; refine hstep.mono ?_; clear hstep; rintro e w3 ⟨rfl, h3, hb3⟩) | (go_at_call 48; refine (Tryz.Builder_String_any w.heap.size w.heap.size _ _ h3 hb3.size).mono ?_; rintro e w4 ⟨rfl, hb4⟩))
      go_ret
      exact ⟨rfl, hb3.trans hb4⟩

end Go.Proofs.YtbhdkkkaeabkhaaGreatDoor

namespace Go.Proofs.YtbhdkkkaeabkhaaGreatDoor
open Go.RowKit Go.Shelf
set_option linter.unusedSimpArgs false
set_option linter.unusedVariables false

namespace Lx
/-- A token's text, unheld. -/
def raw (t : Tok) : Option Bytes :=
  if t.kind = 1 ∨ t.kind = 2 ∨ t.kind = 3 ∨ t.kind = 6 then some t.s
  else if t.kind = 4 then (if t.n < 0 then none else some (Lib.decDigits t.n.toNat))
  else if t.kind = 5 then some (quote t.s) else none
/-- What written answers. -/
def held (t : Tok) (s : Bytes) : Bool :=
  match cut 0 s with
  | .ok x n => n == s.length && x == { t with pos := 0 }
  | .bad _ _ => false
def written (t : Tok) : Bytes × Bool :=
  match raw t with
  | none => ([], false)
  | some [] => ([], false)
  | some (c :: l) => if begins c then (c :: l, held t (c :: l)) else ([], false)
end Lx

theorem tokEq (w : World) (p k n p' k' n' : Int) (s s' : ByteArray) :
    (binOp .eql 26 (.agg #[.int .i64 p, .int .i64 k, .string s, .int .i64 n]) (.agg #[.int .i64 p', .int .i64 k', .string s', .int .i64 n'])).run Tryz.prog w = .ok (.bool (p == p' && (k == k' && (s.toList == s'.toList && n == n')))) w := by
  have h1 : Tryz.prog.underlying 26 = some (.struct (Tryz.prog.fieldsOf 26)) := by kernel_rfl
  have h2 : Tryz.prog.stoodInHeld 26 = false := by kernel_rfl
  rw [run_eql_struct, run_equalIn_agg _ _ _ _ _ h1 h2]
  simp [go_sem]
  by_cases a : p = p'
  · by_cases b : k = k'
    · by_cases c : s.toList = s'.toList
      · by_cases d : n = n' <;> simp [a, b, c, d]
      · simp [a, b, c]
    · simp [a, b]
  · simp [a]
theorem tokBeq (x t : Lx.Tok) : (x == t) = (x.pos == t.pos && (x.kind == t.kind && ((⟨x.s.toArray⟩ : ByteArray).toList == (⟨t.s.toArray⟩ : ByteArray).toList && x.n == t.n))) := by
  rw [ByteArray.toList_mk, ByteArray.toList_mk, Bool.eq_iff_iff]
  simp only [beq_iff_eq, Bool.and_eq_true]
  constructor
  · rintro rfl; exact ⟨rfl, rfl, rfl, rfl⟩
  · rintro ⟨a, b, c, d⟩
    cases x; cases t
    simp only at a b c d
    subst a b c d
    rfl
attribute [local go_sem high] tokEq
theorem mk_back (b : ByteArray) : (⟨b.data.toList.toArray⟩ : ByteArray) = b := by cases b; simp
theorem nD_le : ∀ (k u : Nat), u < 10 ^ (k + 1) → Lib.nDigits u ≤ k + 1
  | 0, u, h => by rw [Lib.nDigits_small (by simpa using h)]; exact Nat.le_refl _
  | k + 1, u, h => by
    by_cases hu : u < 10
    · rw [Lib.nDigits_small hu]; omega
    · rw [Lib.nDigits_big hu]
      have := nD_le k (u / 10) (by rw [Nat.pow_succ] at h; omega)
      omega

set_option maxHeartbeats 4000000 in
set_option maxRecDepth 100000 in
theorem lexWritten (t : Lx.Tok) (w : World) (hG : GS w) (hN : NG ≤ w.heap.size) (hs : t.s.length ≤ 1000000000) (hn0 : -9223372036854775808 ≤ t.n) (hn1 : t.n ≤ 9223372036854775807) :
    Calls Tryz.prog 44 #[.agg #[.int .i64 t.pos, .int .i64 t.kind, .string ⟨t.s.toArray⟩, .int .i64 t.n]] w fun e w' =>
      e = .returned (.tuple #[.string ⟨(Lx.written t).1.toArray⟩, .bool (Lx.written t).2]) ∧ w.grownBy w' none := by
  go_enter Tryz.func44, Tryz.ntmps44
  have hB := heap_alloc_new w (.cells #[.int .i64 t.pos, .int .i64 t.kind, .string ⟨t.s.toArray⟩, .int .i64 t.n] 26)
  have hgB : w.grownBy (w.alloc (.cells #[.int .i64 t.pos, .int .i64 t.kind, .string ⟨t.s.toArray⟩, .int .i64 t.n] 26)) none := World.grownBy_alloc _ _ _
  have hGB := hG.alloc (.cells #[.int .i64 t.pos, .int .i64 t.kind, .string ⟨t.s.toArray⟩, .int .i64 t.n] 26)
  obtain ⟨b0, b1, b2, b3⟩ := four_cells hB
  have HB := Lib.hid hB
  have HGB := Lib.hid hgB
  clear hB hgB
  go_upto_block 0 with fail
  obtain ⟨w2, hw2⟩ : ∃ w2, w.alloc (.cells #[.int .i64 t.pos, .int .i64 t.kind, .string ⟨t.s.toArray⟩, .int .i64 t.n] 26) = w2 := ⟨_, rfl⟩
  rw [hw2] at b0 b1 b2 b3 HB HGB hGB ⊢
  have hz2 : w.heap.size < w2.heap.size := lt_of_block HB.out
  clear hw2
  go_cut [4] (fun v wx => ∃ sb : ByteArray, v = .string sb ∧ Lx.raw t = some sb.data.toList ∧ w2.grownBy wx none ∧ sb.size ≤ 3000000000)
  case first =>
    have hsl : (⟨t.s.toArray⟩ : ByteArray).data.toList = t.s := rfl
    by_cases k1 : t.kind = 1 ∨ t.kind = 2 ∨ t.kind = 3 ∨ t.kind = 6
    · have hr : Lx.raw t = some t.s := by unfold Lx.raw; rw [if_pos k1]
      have HR := Lib.hid hr
      clear hr
      rcases k1 with k1 | k1 | k1 | k1
      · have e1 : (t.kind == 1) = true := by simp; omega
        clear k1
        go_wp2
        go_meet
        exact ⟨⟨t.s.toArray⟩, rfl, HR.out, World.grownBy.refl _ _, by show t.s.length ≤ _; omega⟩
      · have e1 : (t.kind == 1) = false := by simp; omega
        have e2 : (t.kind == 2) = true := by simp; omega
        clear k1
        go_wp2
        go_meet
        exact ⟨⟨t.s.toArray⟩, rfl, HR.out, World.grownBy.refl _ _, by show t.s.length ≤ _; omega⟩
      · have e1 : (t.kind == 1) = false := by simp; omega
        have e2 : (t.kind == 2) = false := by simp; omega
        have e3 : (t.kind == 3) = true := by simp; omega
        clear k1
        go_wp2
        go_meet
        exact ⟨⟨t.s.toArray⟩, rfl, HR.out, World.grownBy.refl _ _, by show t.s.length ≤ _; omega⟩
      · have e1 : (t.kind == 1) = false := by simp; omega
        have e2 : (t.kind == 2) = false := by simp; omega
        have e3 : (t.kind == 3) = false := by simp; omega
        have e6 : (t.kind == 6) = true := by simp; omega
        clear k1
        go_wp2
        go_meet
        exact ⟨⟨t.s.toArray⟩, rfl, HR.out, World.grownBy.refl _ _, by show t.s.length ≤ _; omega⟩
    · have e1 : (t.kind == 1) = false := by simp; omega
      have e2 : (t.kind == 2) = false := by simp; omega
      have e3 : (t.kind == 3) = false := by simp; omega
      have e6 : (t.kind == 6) = false := by simp; omega
      by_cases k4 : t.kind = 4
      · by_cases hneg : t.n < 0
        · have hr : Lx.raw t = none := by unfold Lx.raw; rw [if_neg k1, if_pos k4, if_pos hneg]
          have HR := Lib.hid (show Lx.written t = ([], false) by unfold Lx.written; rw [hr])
          clear hr k1
          have e4 : (t.kind == 4) = true := by simp; omega
          clear k4
          go_wp2
          refine bodyPost_ret (results_tmp2 rfl _ _ _) rfl ?_
          rw [HR.out]
          exact ⟨rfl, HGB.out⟩
        · have hr : Lx.raw t = some (Lib.decDigits t.n.toNat) := by unfold Lx.raw; rw [if_neg k1, if_pos k4, if_neg hneg]
          have hit : Lib.itoa t.n = Lib.decDigits t.n.toNat := by unfold Lib.itoa; rw [if_neg hneg]
          have HR := Lib.hid hr
          have HI := Lib.hid hit
          clear hr hit k1
          have e4 : (t.kind == 4) = true := by simp; omega
          clear k4
          go_wp2_with (go_at_call 64; refine (Tryz.strconv_Itoa _ hn0 hn1 _ hGB.pow).mono ?_; rintro e w3 ⟨rfl, k, os, rfl⟩)
          go_meet
          refine ⟨⟨(Lib.decDigits t.n.toNat).toArray⟩, by rw [HI.out], HR.out, below_grown (Lib.below_grow _ _ (Nat.le_refl _) _ _), ?_⟩
          show (Lib.decDigits t.n.toNat).length ≤ 3000000000
          rw [Lib.decDigits_length]
          have := nD_le 19 t.n.toNat (by omega)
          omega
      · have e4 : (t.kind == 4) = false := by simp; omega
        by_cases k5 : t.kind = 5
        · have hr : Lx.raw t = some (Lx.quote t.s) := by unfold Lx.raw; rw [if_neg k1, if_neg k4, if_pos k5]
          have HR := Lib.hid hr
          clear hr k1
          have e5 : (t.kind == 5) = true := by simp; omega
          clear k5
          go_wp2_with (go_at_call 68; refine (lexQuote ⟨t.s.toArray⟩ _ (by show t.s.length ≤ _; omega)).mono ?_; rintro e w3 ⟨rfl, hb3⟩)
          go_meet
          refine ⟨⟨(Lx.quote t.s).toArray⟩, rfl, HR.out, below_grown hb3, ?_⟩
          have := Lx.quoteIn_len t.s
          show (Lx.quote t.s).length ≤ _
          simp [Lx.quote]
          omega
        · have e5 : (t.kind == 5) = false := by simp; omega
          have hr : Lx.raw t = none := by unfold Lx.raw; rw [if_neg k1, if_neg k4, if_neg k5]
          have HR := Lib.hid (show Lx.written t = ([], false) by unfold Lx.written; rw [hr])
          clear hr k1 k4 k5
          go_wp2
          refine bodyPost_ret (results_tmp2 rfl _ _ _) rfl ?_
          rw [HR.out]
          exact ⟨rfl, HGB.out⟩
  case rest =>
    obtain ⟨sb, rfl, hr, hg2, hsl⟩ := hcut
    have HR := Lib.hid hr
    clear hr
    have hgW : w.grownBy wc none := HGB.out.trans hg2
    have hGc : GS wc := hG.below (grown_below hgW)
    have hszc := hg2.size
    have hBc := (hg2.block _ hz2 (fun e => nomatch e)).trans HB.out
    have hgW3 := hgW.trans (World.grownBy_alloc wc (.cells #[.string sb, .int .i64 0] 102) none)
    by_cases hz : sb.size = 0
    · have hnil : sb.data.toList = [] := List.length_eq_zero_iff.1 (by rw [len_size]; exact hz)
      have hE : sb.toList.isEmpty = true := by rw [ByteArray.toList_eq, hnil]; rfl
      have HW := Lib.hid (show Lx.written t = ([], false) by unfold Lx.written; rw [HR.out, hnil])
      clear hz hnil
      go_wp2
      refine bodyPost_ret (results_tmp2 rfl _ _ _) rfl ?_
      rw [HW.out]
      exact ⟨rfl, hgW3⟩
    · have hz' : 0 < sb.size := by omega
      have hd := byte_at sb 0 hz'
      rw [List.drop_zero] at hd
      have hE : sb.toList.isEmpty = false := by rw [ByteArray.toList_eq, hd]; rfl
      have HD := Lib.hid hd
      clear hz hd
      have hC3 : Cu (wc.alloc (.cells #[.string sb, .int .i64 0] 102)) wc.heap.size sb 0 := heap_alloc_new wc _
      have hG3 := hGc.alloc (.cells #[.string sb, .int .i64 0] 102)
      have hB3 := heap_alloc hBc (.cells #[.string sb, .int .i64 0] 102)
      have hN3 : NG ≤ wc.heap.size := by omega
      have hlt3 := lt_of_block hB3
      cases hb : Lx.begins (sb[0]'hz') with
      | false =>
        have HW := Lib.hid (show Lx.written t = ([], false) by unfold Lx.written; rw [HR.out, HD.out]; simp [hb])
        go_wp2_with (go_at_call 58; refine (lexBegins _ _).mono ?_; rintro e w' ⟨rfl, rfl⟩)
        refine bodyPost_ret (results_tmp2 rfl _ _ _) rfl ?_
        rw [HW.out]
        exact ⟨rfl, hgW3⟩
      | true =>
        have HBG := Lib.hid hb
        have HW := Lib.hid (show Lx.written t = (sb.data.toList, Lx.held t sb.data.toList) by unfold Lx.written; rw [HR.out, HD.out]; simp [hb])
        have hlen : sb.data.toList.length = sb.size := len_size sb
        cases hc : Lx.cut 0 (sb.data.toList.drop 0) with
        | bad y x =>
          have HX := Lib.hid hc
          have HH := Lib.hid (show Lx.held t sb.data.toList = false by unfold Lx.held; rw [List.drop_zero] at hc; rw [hc])
          clear hc hlen
          go_wp2_with (first | (go_at_call 58; refine (lexBegins _ _).mono ?_; rintro e w' ⟨rfl, rfl⟩) | (go_at_call 59; refine (lexToken sb wc.heap.size 0 _ hC3 hz' (by omega) hG3 hN3 HBG.out).mono ?_; intro e w6 hres; obtain ⟨g, j, rfl, hg6, hR6, hgl, hC6⟩ := ResIs.bad' HX.out hres; clear hres; have hB6 := (hg6.block _ hlt3 (by simp; omega)).trans hB3; obtain ⟨b0, b1, b2, b3⟩ := four_cells hB6; obtain ⟨f0, f1, f2, f3⟩ := four_free hB6; have c1 := hC6.c1; have hlt6 := lt_of_block hB6; have hlc6 := hC6.lt))
          go_quiet (fail)
          go_wp2
          refine bodyPost_ret (results_tmp2 rfl _ _ _) rfl ?_
          rw [HW.out, HH.out]
          refine ⟨?_, (((grown_in (grown_in hgW3 hg6 (by omega)) (grown_set _ _ _ _) (Nat.le_refl _)).trans (World.grownBy_alloc _ _ _)).trans (grown_drewN _ _ _))⟩
          simp only [mk_back]
          rfl
        | ok x n =>
          have HX := Lib.hid hc
          have HH := Lib.hid (show Lx.held t sb.data.toList = (n == sb.size && x == { t with pos := 0 }) by unfold Lx.held; rw [List.drop_zero] at hc; rw [hc, hlen])
          clear hc hlen
          go_wp2_with (first | (go_at_call 58; refine (lexBegins _ _).mono ?_; rintro e w' ⟨rfl, rfl⟩) | (go_at_call 59; refine (lexToken sb wc.heap.size 0 _ hC3 hz' (by omega) hG3 hN3 HBG.out).mono ?_; intro e w6 hres; obtain ⟨rfl, hg6, hC6⟩ := ResIs.ok' HX.out hres; rw [Nat.zero_add] at hC6; clear hres; have hB6 := (hg6.block _ hlt3 (by simp; omega)).trans hB3; obtain ⟨b0, b1, b2, b3⟩ := four_cells hB6; obtain ⟨f0, f1, f2, f3⟩ := four_free hB6; have c1 := hC6.c1; have hlt6 := lt_of_block hB6; have hlc6 := hC6.lt))
          by_cases hn : n = sb.size
          · have hnb : (n == sb.size) = true := by simp [hn]
            have hni : ((n : Int) == (sb.size : Int)) = true := by simp; omega
            clear hn
            go_quiet (fail)
            go_wp2
            refine bodyPost_ret (results_tmp2 rfl _ _ _) rfl ?_
            rw [HW.out, HH.out, hnb, tokBeq]
            refine ⟨?_, (((grown_in (grown_in hgW3 hg6 (by omega)) (grown_set _ _ _ _) (Nat.le_refl _)).trans (World.grownBy_alloc _ _ _)).trans (grown_drewN _ _ _))⟩
            simp only [mk_back, ByteArray.toList_mk, Bool.true_and, Bool.false_and]
            rfl
          · have hnb : (n == sb.size) = false := by simp [hn]
            have hni : ((n : Int) == (sb.size : Int)) = false := by simp; omega
            clear hn
            go_quiet (fail)
            go_wp2
            refine bodyPost_ret (results_tmp2 rfl _ _ _) rfl ?_
            rw [HW.out, HH.out, hnb, tokBeq]
            refine ⟨?_, (((grown_in (grown_in hgW3 hg6 (by omega)) (grown_set _ _ _ _) (Nat.le_refl _)).trans (World.grownBy_alloc _ _ _)).trans (grown_drewN _ _ _))⟩
            simp only [mk_back, ByteArray.toList_mk, Bool.true_and, Bool.false_and]
            rfl

end Go.Proofs.YtbhdkkkaeabkhaaGreatDoor
