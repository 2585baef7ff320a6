/-
  The walks of coillaw2's two, told.
  Plain: a statement's size.
-/
import Derived.Test.YtdncljdfmdgdaaaGreatDoorM22
import Derived.Test.YtdncljdfmdgdaaaGreatDoorM13
namespace Go.Proofs.YtdncljdfmdgdaaaGreatDoor
open Go.RowKit Go.Shelf
set_option linter.unusedSimpArgs false
set_option linter.unusedVariables false

theorem size3 (w : World) (a b c : Obj) : (((w.alloc a).alloc b).alloc c).heap.size = w.heap.size + 1 + 1 + 1 := by simp
set_option maxRecDepth 100000 in
set_option maxHeartbeats 4000000 in
theorem lawTwo (k : Int) (x y : Sx.Ex) (v u : Value) (w : World) (hv : IsEx w v x) (hu : IsEx w u y) :
    Calls Tryz.prog 21 #[.int .i64 k, v, u] w fun e w' => ∃ g, e = .returned (.agg #[.int .i64 0, .int .i64 k, .int .i64 0, .string ⟨#[]⟩, .slice none 0 0, .slice none 0 0, .slice (some ⟨g, 0, none⟩) 2 2]) ∧ ExRow w' (.slice (some ⟨g, 0, none⟩) 2 2) [x, y] ∧ Below w.heap.size w w' := by
  obtain ⟨At, ct, An, cn, Ap, cp, rfl, -⟩ := hv.agg
  obtain ⟨Bt, dt, Bn, dn, Bp, dp, rfl, -⟩ := hu.agg
  have HV := Lib.hid hv
  have HU := Lib.hid hu
  clear hv hu
  go_enter Tryz.func21, Tryz.ntmps21
  go_wp2
  refine bodyPost_ret (v := .agg #[.int .i64 0, .int .i64 k, .int .i64 0, .string ⟨#[]⟩, .slice none 0 0, .slice none 0 0, .slice (some ⟨_, 0, none⟩) 2 2]) (by simp [results, Tryz.results21, go_sem]; rfl) rfl ⟨_, rfl, ?_, ?_⟩
  · have hb : Below w.heap.size w (((w.alloc (.cells #[.int .i64 x.pos, .int .i64 x.kind, .int .i64 x.n, .string ⟨x.s.toArray⟩, .slice At x.t.length ct, .slice An x.names.length cn, .slice Ap x.parts.length cp] 39)).alloc
        (.cells #[.int .i64 y.pos, .int .i64 y.kind, .int .i64 y.n, .string ⟨y.s.toArray⟩, .slice Bt y.t.length dt, .slice Bn y.names.length dn, .slice Bp y.parts.length dp] 39)).alloc
        (.cells #[.int .i64 0, .int .i64 k, .int .i64 0, .string ⟨#[]⟩, .slice none 0 0, .slice none 0 0, .slice (some ⟨w.heap.size + 1 + 1 + 1, 0, none⟩) 2 2] 39)) :=
      (((Below.refl _ _).alloc (Nat.le_refl _) _).alloc (by simp) _).alloc (by simp; omega) _
    have h := ExRow.new2 (IsEx.below hb _ _ HV.out) (IsEx.below hb _ _ HU.out)
    rw [size3] at h
    exact h
  · exact ((((Below.refl _ _).alloc (Nat.le_refl _) _).alloc (by simp) _).alloc (by simp; omega) _).alloc (by simp; omega) _

set_option maxRecDepth 100000 in
set_option maxHeartbeats 4000000 in
theorem lawTold (x : Sx.Ex) (s : Lx.Bytes) (v : Value) (w : World) (hG : GS w) (hN : NG ≤ w.heap.size) (hv : IsEx w v x) (hz : Sx.sizeX x ≤ 1000000) (hlen : (Sx.expr SY x).length ≤ 900000000) (hs : Sx.said (Sx.rightX NM 64 x) (Sx.expr SY x) = (s, 0)) :
    Calls Tryz.prog 20 #[v, .string ⟨s.toArray⟩] w fun e w' => e = .returned (.bool true) ∧ Below w.heap.size w w' := by
  have hx := fun X (hX : Below w.heap.size w X) => synExpr x v X (hG.below hX) (Nat.le_trans hN hX.size) (IsEx.below hX _ _ hv) hz hlen
  rw [hs] at hx
  obtain ⟨At, ct, An, cn, Ap, cp, rfl, -⟩ := hv.agg
  obtain ⟨w2, hw2⟩ : ∃ w2, w.alloc (.cells #[.int .i64 x.pos, .int .i64 x.kind, .int .i64 x.n, .string ⟨x.s.toArray⟩, .slice At x.t.length ct, .slice An x.names.length cn, .slice Ap x.parts.length cp] 39) = w2 := ⟨_, rfl⟩
  have hb2 : Below w.heap.size w w2 := by rw [← hw2]; exact grown_below (World.grownBy_alloc w _ none)
  have hbox := heap_alloc_new w (.cells #[.int .i64 x.pos, .int .i64 x.kind, .int .i64 x.n, .string ⟨x.s.toArray⟩, .slice At x.t.length ct, .slice An x.names.length cn, .slice Ap x.parts.length cp] 39)
  rw [hw2] at hbox
  obtain ⟨x0, x1, x2, x3, x4, x5, x6⟩ := seven_cells hbox
  have hl := lt_of_block hbox
  have HX := Lib.hid (hx w2 hb2)
  have HB := Lib.hid hb2
  clear hx hb2 hbox hG hs hlen hz hv
  go_enter Tryz.func20, Tryz.ntmps20
  go_wp2_with (go_at_call 23; refine HX.out.mono ?_; rintro e w3 ⟨rfl, hb3⟩)
  go_ret
  exact ⟨by simp, HB.out.trans (hb3.mono HB.out.size)⟩

end Go.Proofs.YtdncljdfmdgdaaaGreatDoor

namespace Go.Proofs.YtdncljdfmdgdaaaGreatDoor
set_option linter.unusedVariables false
mutual
/-- coilkeep's size of statements, with no limit. -/
def Sx.sizeS : Sx.St → Nat
  | .mk _ _ nm t x b e => 1 + nm.length + Sx.sizeL t + Sx.sizeXs x + Sx.sizeSs b + Sx.sizeSs e
def Sx.sizeSs : List Sx.St → Nat
  | [] => 0
  | s :: l => Sx.sizeS s + Sx.sizeSs l
end
theorem Sx.sizeS_parts (s : Sx.St) : Sx.sizeS s = 1 + s.name.length + Sx.sizeL s.t + Sx.sizeXs s.x + Sx.sizeSs s.body + Sx.sizeSs s.els := by cases s; rw [Sx.sizeS]; rfl
theorem Sx.sizeS_pos (s : Sx.St) : 1 ≤ Sx.sizeS s := by rw [Sx.sizeS_parts]; omega
theorem Sx.sizeS_mem : ∀ {l : List Sx.St} {x : Sx.St}, x ∈ l → Sx.sizeS x ≤ Sx.sizeSs l
  | u :: l, t, h => by
    rw [Sx.sizeSs]
    rcases List.mem_cons.1 h with rfl | h
    · omega
    · have := Sx.sizeS_mem h; omega
theorem Sx.length_sizeSs : ∀ (l : List Sx.St), l.length ≤ Sx.sizeSs l
  | [] => by simp [Sx.sizeSs]
  | t :: l => by
    rw [Sx.sizeSs, List.length_cons]
    have := Sx.length_sizeSs l
    have := Sx.sizeS_pos t
    omega
end Go.Proofs.YtdncljdfmdgdaaaGreatDoor
