/-
  errors.Is at a refusal and its number. (The lines of the worked proof SentryIs, turned to this program's numbers.)
-/
import Derived.Test.YtbhdkkkaeabkhaaGreatDoorLxAs
import Derived.Test.YtbhdkkkaeabkhaaGreatDoorLxUnwrap
namespace Go.Proofs.YtbhdkkkaeabkhaaGreatDoor
open Go.RowKit Go.Extern.Stop Go.Stop Go.Extern
set_option linter.unusedSimpArgs false
set_option linter.unusedVariables false

theorem run_equalIn_iface_int {P : Program} (w : World) (d : Nat) {ti tn : TypeId} {ms : Array (String × TypeId)} {i : TypeInfo} {k : IntKind} (a b : Int)
    (hi : P.underlying ti = some (.interface ms)) (hn : P.underlying tn = some (.int k)) (hinfo : P.info? tn = some i) (hcomp : i.comparable = true) :
    (Op.equalIn (d + 2) ti (.iface tn (.int k a)) (.iface tn (.int k b))).run P w = .ok (a == b) w := by
  simp [Op.equalIn, run_underlying hi, run_underlying hn, typeInfo, hinfo, hcomp]
theorem run_eql_iface_int {P : Program} (w : World) {ti tn : TypeId} {ms : Array (String × TypeId)} {i : TypeInfo} {k : IntKind} (a b : Int)
    (hi : P.underlying ti = some (.interface ms)) (hn : P.underlying tn = some (.int k)) (hinfo : P.info? tn = some i) (hcomp : i.comparable = true) :
    (binOp .eql ti (.iface tn (.int k a)) (.iface tn (.int k b))).run P w = .ok (.bool (a == b)) w := by
  simp only [binOp]
  simp [Op.equal, Op.maxDepth, run_equalIn_iface_int w 9998 a b hi hn hinfo hcomp]

theorem is_typeOf (v : Value) (w : World) : (Extern.ReflectliteType.typeOf #[.iface 36 v]).run Tryz.prog w = .ok (.iface 127 (.agg #[.pointer (some ⟨10, 36, none⟩)])) w := by kernel_rfl
theorem is_comparable (w : World) : ((Extern.ReflectliteType.method fun t => do Extern.Rtype.noPackHeld "Comparable" t; (fun a => Value.bool a.comparable) <$> typeInfo t) #[.agg #[.pointer (some ⟨10, 36, none⟩)]]).run Tryz.prog w = .ok (.bool true) w := by kernel_rfl
theorem is_methodComparable (v : Value) (w : World) : (Go.method 319 127 v "Comparable").run Tryz.prog w = .ok (155, v) w := by kernel_rfl
theorem is_comp : (Tryz.prog.info? 36).map (·.comparable) = some true := by kernel_rfl
theorem is_noIsR (v : Value) (xT : TypeId) (w : World) : (Instr.typeAssert (.iface 74 v) xT 139 true).run Tryz.prog w = .ok (.tuple #[.nilIface, .bool false]) w := run_typeAssert_lacksB Tryz.underlying139 (by kernel_rfl) (by kernel_rfl) v xT w
theorem is_hasUnwrapR (v : Value) (xT : TypeId) (w : World) : (Instr.typeAssert (.iface 74 v) xT 134 true).run Tryz.prog w = .ok (.tuple #[.iface 74 v, .bool true]) w := run_typeAssert_hasB Tryz.underlying134 (by kernel_rfl) v xT w
theorem is_methodUnwrap (v : Value) (w : World) : (Go.method 319 74 v "Unwrap").run Tryz.prog w = .ok (148, v) w := by kernel_rfl

set_option maxHeartbeats 4000000 in
set_option maxRecDepth 100000 in
theorem is_hit (g : Nat) (p y : Int) (w : World) (hR : IsRef w g p y) :
    Calls Tryz.prog 43 #[.iface 74 (.pointer (some ⟨g, 0, none⟩)), .iface 36 (.int .i64 y)] w fun e w' => e = .returned (.bool true) ∧ w' = w := by
  obtain ⟨i, hi, hcmp⟩ := Option.map_eq_some_iff.1 is_comp
  have h8 := @run_callFunc_extern Tryz.prog 66 _ Extern.ReflectliteType.typeOf Tryz.func66 (by kernel_rfl) (by kernel_rfl) (by kernel_rfl) (by kernel_rfl)
  have h32 := @run_callFunc_extern Tryz.prog 155 _ (Extern.ReflectliteType.method fun t => do Extern.Rtype.noPackHeld "Comparable" t; pure (.bool (← typeInfo t).comparable)) Tryz.func155 (by kernel_rfl) (by kernel_rfl) (by kernel_rfl) (by kernel_rfl)
  have tT := is_typeOf
  have cT := is_comparable
  have mR := is_methodComparable
  have nW := is_noIsR
  have uW := is_hasUnwrapR
  have mU := is_methodUnwrap
  have heq := run_eql_iface_int (P := Tryz.prog) w (k := .i64) y y Tryz.underlying32 Tryz.underlying36 hi hcmp
  have hty := run_eql_iface_types (P := Tryz.prog) 74 36 (.pointer (some ⟨g, 0, none⟩)) (.int .i64 y) Tryz.underlying32 (by decide) w
  have c1 : w.cell? ⟨g, 1, none⟩ = some (.int .i64 y) := cell_of hR 1
  clear hR
  go_enter Tryz.func43, Tryz.ntmps43
  go_wp2
  refine wp_loop_rounds 2 ?_
  rw [rounds_succ]
  go_wp2
  rw [rounds_succ]
  go_wp2
  go_ret
  exact ⟨rfl, rfl⟩

end Go.Proofs.YtbhdkkkaeabkhaaGreatDoor
