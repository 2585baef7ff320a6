/-
  A row of bytes that came in.
-/
import Derived.Test.YtbhdkkkaeabkhaaGreatDoorLwOpen
namespace Go.Proofs.YtbhdkkkaeabkhaaGreatDoor
open Go.ChangeShapes Go.WideShapes Go.ChangeAt Go.RowKit
set_option linter.unusedSimpArgs false
set_option linter.unusedVariables false

def BytesArg (w : World) (v : Value) (bs : List UInt8) : Prop :=
  ∃ a c, v = .slice a bs.length c ∧ bs.length ≤ 9223372036854775807 ∧ ∀ m (h : m < bs.length), ∃ b off, a = some ⟨b, off, none⟩ ∧ w.cell? ⟨b, off + m, none⟩ = some (.int .u8 (((bs[m]'h).toNat : Nat) : Int))
theorem cU8 : Tryz.prog.cellsOf 5 = 1 := by kernel_rfl
theorem cells_one {w : World} {a : Addr} {cs : List Value} (h : w.cells? 0 a 1 = some cs) : ∃ p, cs = [p] ∧ w.cell? (a.add 0) = some p := by
  unfold World.cells? at h
  rw [if_pos (Nat.zero_le _)] at h
  have hr : List.range 1 = [0] := by decide
  rw [hr] at h
  cases h0 : w.cell? (a.add 0) with
  | none => simp [List.mapM_cons, h0] at h
  | some p =>
    simp [List.mapM_cons, h0] at h
    exact ⟨p, h.symm, rfl⟩
set_option maxRecDepth 100000 in
theorem open_bytes {H : Type} {enc : TypeId × Value → H} {W : World} {base : Nat} {v : Value} {d : DataW H} {p : List MemPlace} {sp : Nat → Bool} {held : Bool} (hval : Value.okWide Tryz.prog W .any base 66 v) (hd : DataW.Trod enc Tryz.prog W 0 sp held 66 v d p) :
    ∃ bs, BytesArg W v bs := by
  obtain ⟨a0, len, cap, rfl⟩ := okWide_slice Tryz.underlying66 hval
  obtain ⟨fuel, hf⟩ := hd
  have hf' : DataW.trod enc Tryz.prog W 0 sp held fuel 66 [.slice a0 len cap] = some (d, p) := hf
  rcases DataW.trod_slice Tryz.underlying66 hf' with ⟨hcs, _⟩ | ⟨a, len', cap', elems, rest, n, _, hcs, _, _, hlc, hcm, hlen, hel, _⟩
  · injection hcs with hcs _
    injection hcs with h1 h2 h3
    subst h1 h2 h3
    exact ⟨[], none, 0, rfl, by simp, fun m h => by simp at h⟩
  · injection hcs with hcs _
    injection hcs with h1 h2 h3
    subst h1 h2 h3
    rw [cU8] at hel
    have raw : ∀ i, i < len → ∃ c : UInt8, W.cell? ((a.add (i * 1)).add 0) = some (.int .u8 ((c.toNat : Nat) : Int)) := by
      intro i hi
      have he := hel i hi
      rw [List.getElem?_eq_getElem (by omega)] at he
      obtain ⟨cs, hc, ht⟩ := Option.bind_eq_some_iff.1 he
      obtain ⟨c0, rfl, k0⟩ := cells_one hc
      obtain ⟨n', e1, _, w1⟩ := DataW.trod_int Tryz.underlying5 ht
      injection e1 with e1
      subst e1
      have hw : 0 ≤ n' ∧ n' ≤ 255 := by
        simp only [Lit.wf, Bool.and_eq_true, decide_eq_true_eq] at w1
        exact w1
      refine ⟨UInt8.ofNat n'.toNat, ?_⟩
      have hn : (UInt8.ofNat n'.toNat).toNat = n'.toNat := by rw [UInt8.toNat_ofNat', Nat.mod_eq_of_lt (by omega)]
      rw [hn, k0]
      congr 2
      omega
    have key : ∀ i, i < len → ∃ c : UInt8, ∃ b off, some a = some (⟨b, off, none⟩ : Addr) ∧ W.cell? ⟨b, off + i, none⟩ = some (.int .u8 ((c.toNat : Nat) : Int)) := by
      intro i hi
      obtain ⟨c0, h0⟩ := raw 0 (by omega)
      obtain ⟨b, off, spot⟩ := a
      have hspot : spot = none := by simpa [Addr.add] using World.cell?_spot h0
      subst hspot
      obtain ⟨c, k0⟩ := raw i hi
      rw [add_none, add_none] at k0
      exact ⟨c, b, off, rfl, by simpa using k0⟩
    obtain ⟨bs, hl, hp⟩ := list_of_all len key
    refine ⟨bs, some a, cap, by rw [hl], by unfold maxLen at hcm; omega, fun m h => hp m h⟩

end Go.Proofs.YtbhdkkkaeabkhaaGreatDoor
