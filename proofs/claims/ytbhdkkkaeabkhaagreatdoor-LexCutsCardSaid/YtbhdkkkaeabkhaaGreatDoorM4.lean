/-
  A row of bytes that the call itself makes: append of one byte, and the string of such a row.
-/
import Derived.Test.YtbhdkkkaeabkhaaGreatDoorM1
import Derived.Maps.AppendAt
namespace Go.Proofs.YtbhdkkkaeabkhaaGreatDoor
open Go.RowKit
set_option linter.unusedSimpArgs false
set_option linter.unusedVariables false

def bytesV (l : List UInt8) : List Value := l.map fun c => Value.int .u8 (c.toNat : Int)
theorem bytesV_length (l : List UInt8) : (bytesV l).length = l.length := by simp [bytesV]
theorem bytesV_snoc (l : List UInt8) (c : UInt8) : bytesV (l ++ [c]) = bytesV l ++ [.int .u8 (c.toNat : Int)] := by simp [bytesV]

/-- A row of bytes of the call's own. -/
def OwnB (w : World) (base : Nat) (v : Value) (l : List UInt8) : Prop := w.ownsRow base 5 1 v l.length (bytesV l)

theorem infoU8 : (Tryz.prog.info? 5).map (fun i => (i.zero, i.size, i.bytes)) = some (some (.int .u8 0), 1, 1) := by kernel_rfl

theorem OwnB.nil (w : World) (base : Nat) : OwnB w base (.slice none 0 0) [] := World.ownsRow_nil w base _ 1
theorem OwnB.alloc {w : World} {base : Nat} {v : Value} {l : List UInt8} (h : OwnB w base v l) (o : Obj) : OwnB (w.alloc o) base v l := World.ownsRow.alloc h o
theorem OwnB.drewN {w : World} {base : Nat} {v : Value} {l : List UInt8} (h : OwnB w base v l) (n : Nat) : OwnB (w.drewN n) base v l := World.ownsRow.kept h (grown_drewN w n none) (by cases v.ownBlock <;> simp)
theorem OwnB.set {w : World} {base b : Nat} {v : Value} {l : List UInt8} (h : OwnB w base v l) (hb : b < base) (j : Nat) (x : Value) : OwnB (w.setCell ⟨b, j, none⟩ x) base v l :=
  World.ownsRow.kept h (grown_set w b j x) (by
    rcases hv : v.ownBlock with _ | g
    · exact .inl rfl
    · exact .inr fun e => by
        injection e with e
        have := (World.ownsRow.lt h g hv).1
        omega)
theorem OwnB.slice {w : World} {base : Nat} {v : Value} {l : List UInt8} (h : OwnB w base v l) : ∃ A c, v = .slice A l.length c := by
  rcases h.2 with ⟨rfl, h0⟩ | ⟨g, cap, cur, rfl, _⟩
  · exact ⟨none, 0, by rw [h0]⟩
  · exact ⟨_, cap, rfl⟩
theorem OwnB.base {w : World} {base : Nat} {v : Value} {l : List UInt8} (h : OwnB w base v l) (k : Nat) (hk : v.ownBlock = some k) : base ≤ k := (World.ownsRow.lt h k hk).1

/-- append(v, c): behind 'at_builtin', in the world that has just laid the variadic's box. -/
theorem appByte {ops : Array Oper} {rest : List Oper} {o : Oper} {a : Act} {Q : Exit → Act → World → Prop} {W : World} (base : Nat) (hgd : o.guard = none) (s x : Operand)
    (ho : o.op = .call { callee := .builtin .append, args := #[s, x], argTypes := #[66, 66] })
    (v : Value) (l : List UInt8) (c : UInt8) (hs : a.eval s = v) (hx : a.eval x = .slice (some ⟨W.heap.size, 0, none⟩) 1 1) (HO : OwnB W base v l) (hbase : base ≤ W.heap.size) (hl : l.length ≤ 140737488351232)
    (h : ∀ v1 w1, OwnB w1 base v1 (l ++ [c]) → (W.alloc (.cells #[.int .u8 (c.toNat : Int)] 5)).grownBy w1 v.ownBlock → wpList Tryz.prog ops Q rest (a.put o.dst v1) w1) :
    wpList Tryz.prog ops Q (o :: rest) a (W.alloc (.cells #[.int .u8 (c.toNat : Int)] 5)) := by
  obtain ⟨i0, hi, hz0, hz1, hz2⟩ := info_parts infoU8
  refine wpList_append_own (W.alloc (.cells #[.int .u8 (c.toNat : Int)] 5)) hgd s x 66 ho base 5 i0 (.int .u8 0) 1 1 Tryz.underlying66 hi hz0 hz1 hz2 rfl (by decide) v l.length (bytesV l) hs (World.ownsRow.alloc HO _) ⟨W.heap.size, 0, none⟩ 1 1 [.int .u8 (c.toNat : Int)] hx rfl (cell_one_new _ _ _) (by simp [Value.oneCell']) (by unfold maxLen; omega) (by omega) (by simp; omega) ?_
  intro v1 w1 hown hg _
  refine h v1 w1 ?_ hg
  unfold OwnB
  rw [bytesV_snoc]
  simpa using hown

/-- The same at a step of a region that draws its order: the byte's box is block N. -/
theorem stepByte {ops : Array Oper} {o : Oper} {a : Act} {K : Act → World → Prop} {Q : Exit → Act → World → Prop} {E : Prop} {W : World} (base : Nat) (hgd : o.guard = none) (s x : Operand)
    (ho : o.op = .call { callee := .builtin .append, args := #[s, x], argTypes := #[66, 66] })
    (v : Value) (l : List UInt8) (c : UInt8) (N : Nat) (hs : a.eval s = v) (hx : a.eval x = .slice (some ⟨N, 0, none⟩) 1 1) (hN : W.heap[N]? = some (.cells #[.int .u8 (c.toNat : Int)] 5 (0, 0)))
    (HO : OwnB W base v l) (hbase : base ≤ W.heap.size) (hl : l.length ≤ 140737488351232)
    (h : ∀ v1 w1, OwnB w1 base v1 (l ++ [c]) → W.grownBy w1 v.ownBlock → K (a.put o.dst v1) w1) :
    if Region.wanted o (yielded ops a.tmps) = true then Oper.wp Tryz.prog o a W K Q else E := by
  obtain ⟨i0, hi, hz0, hz1, hz2⟩ := info_parts infoU8
  rw [if_pos (by simp [Region.wanted, hgd])]
  refine wp_append_own W s x 66 ho base 5 i0 (.int .u8 0) 1 1 Tryz.underlying66 hi hz0 hz1 hz2 rfl (by decide) v l.length (bytesV l) hs HO ⟨N, 0, none⟩ 1 1 [.int .u8 (c.toNat : Int)] hx rfl ?_ (by simp [Value.oneCell']) (by unfold maxLen; omega) (by omega) hbase ?_
  · intro j u hj
    match j, hj with
    | 0, hj =>
      simp at hj
      subst hj
      show W.cell? ⟨N, 0, none⟩ = _
      rw [cell_of hN]
      rfl
  · intro v1 w1 hown hg _
    refine h v1 w1 ?_ hg
    unfold OwnB
    rw [bytesV_snoc]
    simpa using hown

/-- string(v). -/
theorem strByte {W : World} {base : Nat} {v : Value} {l : List UInt8} (h : OwnB W base v l) : (convert 66 9 v).run Tryz.prog W = .ok (.string ⟨l.toArray⟩) W := by
  rcases h.2 with ⟨rfl, h0⟩ | ⟨g, cap, cur, rfl, hb, hg, hn, hm, hcs, ht⟩
  · have : l = [] := List.eq_nil_of_length_eq_zero h0
    subst this
    exact run_convert_bytes_nil W 66 5 Tryz.underlying66 Tryz.underlying5 0 0 _ Tryz.underlying9
  · have e : (⟨l.toArray⟩ : ByteArray) = strOfNums (l.map fun c => (c.toNat : Int)) := by
      have : (l.map fun c => (c.toNat : Int)).map (fun n => UInt8.ofNat n.toNat) = l := by
        rw [List.map_map]
        conv => rhs; rw [← List.map_id l]
        congr 1
        funext c
        simp
      unfold strOfNums
      rw [this]
    rw [e]
    refine run_convert_bytes_arg W 66 5 Tryz.underlying66 Tryz.underlying5 g 0 l.length cap _ (by simp) (fun i hi => ?_) _ Tryz.underlying9
    have hc := World.ownsRow.cells h (g := g) rfl i (.int .u8 ((l.map fun c => (c.toNat : Int)).getD i 0)) (by
      simp [bytesV, List.getD_eq_getElem?_getD, List.getElem?_eq_getElem hi])
    have ha : (⟨g, 0, none⟩ : Addr).add i = ⟨g, 0 + i, none⟩ := by unfold Addr.add; split <;> simp_all
    rwa [ha] at hc
end Go.Proofs.YtbhdkkkaeabkhaaGreatDoor
