/-
  Types and expressions made: rows newly laid; the walks of coillaw2's small helpers.
-/
/-
 Types and expressions made: rows newly laid; the walks of coillaw2's small helpers.
 Small helpers of the laws.
 A law's two arguments that are types: their boxes, and what every call answers of them.
 Plain: a statement's size.
 Plain laws: how many tokens a tree has, by its size.
 Plain laws: what is told of a right tree is cut into tokens that, joined, are it.
 Plain laws: the tokens of right trees are short.
 The walks of coilref2.Text, coillaw2.fits.
 The walk of coillaw2.fits.
 A region that draws its order, by one state for all orders: each operation is shown once.
 A region that draws its order: each operation is shown once, over the facts of those that it waits for.
-/
import Derived.Test.YtdncljdfmdgdaaaGreatDoorM21
import Derived.Test.YtdncljdfmdgdaaaGreatDoorM8
import Derived.Test.YtdncljdfmdgdaaaGreatDoorM19
import Derived.Test.YtdncljdfmdgdaaaGreatDoorM13
import Derived.Test.YtdncljdfmdgdaaaGreatDoorM14
import Derived.Test.YtdncljdfmdgdaaaGreatDoorM15
import Derived.Test.YtdncljdfmdgdaaaGreatDoorM10
import Derived.Test.YtdncljdfmdgdaaaGreatDoorM12
import Derived.Test.YtdncljdfmdgdaaaGreatDoorM7
import Derived.Lib.AppendStr
import Derived.RegionTactic
import Derived.Below
import Derived.Lib.Hide
namespace Go.Proofs.YtdncljdfmdgdaaaGreatDoor
open Go.RowKit Go.Shelf
set_option linter.unusedSimpArgs false
set_option linter.unusedVariables false
theorem StrRow.nil (w : World) (A : Option Addr) (c : Nat) : StrRow w (.slice A 0 c) [] := ⟨A, c, rfl, fun i h => by simp at h⟩
theorem BoolRow.nil (w : World) (A : Option Addr) (c : Nat) : BoolRow w (.slice A 0 c) [] := ⟨A, c, rfl, fun i h => by simp at h⟩
theorem TyRow.nil (w : World) (A : Option Addr) (c : Nat) : TyRow w (.slice A 0 c) [] := ⟨A, c, rfl, Nat.zero_le _, by rw [IsTys]; trivial⟩
theorem ExRow.nil (w : World) (A : Option Addr) (c : Nat) : ExRow w (.slice A 0 c) [] := ⟨A, c, rfl, Nat.zero_le _, by rw [IsExs]; trivial⟩
theorem StRow.nil (w : World) (A : Option Addr) (c : Nat) : StRow w (.slice A 0 c) [] := ⟨A, c, rfl, Nat.zero_le _, by rw [IsSts]; trivial⟩
theorem StrRow.new (w : World) (l : List Lx.Bytes) : StrRow (w.alloc (.cells (strsV l).toArray 9)) (.slice (some ⟨w.heap.size, 0, none⟩) l.length l.length) l :=
 ⟨_, _, rfl, fun i h => ⟨_, 0, rfl, by rw [Nat.zero_add]; exact (Row.new w l).at h⟩⟩
theorem BoolRow.new (w : World) (l : List Bool) : BoolRow (w.alloc (.cells (l.map Value.bool).toArray 4)) (.slice (some ⟨w.heap.size, 0, none⟩) l.length l.length) l :=
 ⟨_, _, rfl, fun i h => ⟨_, 0, rfl, by rw [Nat.zero_add, cell_of (heap_alloc_new w _)]; simp [h]⟩⟩
theorem IsTy.made {w : World} {k : Int} {nm : Lx.Bytes} {vn ve vp : Value} {ns : List Lx.Bytes} {es : List Bool} {ps : List Sx.Ty} (h1 : StrRow w vn ns) (h2 : BoolRow w ve es) (h3 : TyRow w vp ps) :
  IsTy w (.agg #[.int .i64 k, .string ⟨nm.toArray⟩, vn, ve, vp]) (.mk k nm ns es ps) := by
 obtain ⟨A, c, rfl, hc, hl⟩ := h3
 rw [IsTy]
 exact ⟨vn, ve, A, c, rfl, h1, h2, hc, hl⟩
theorem TyRow.new1 {w : World} {v0 v1 v2 v3 v4 : Value} {t : Sx.Ty} (h : IsTy w (.agg #[v0, v1, v2, v3, v4]) t) :
  TyRow (w.alloc (.cells #[v0, v1, v2, v3, v4] 26)) (.slice (some ⟨w.heap.size, 0, none⟩) 1 1) [t] := by
 have hb := heap_alloc_new w (.cells #[v0, v1, v2, v3, v4] 26)
 refine ⟨_, 1, rfl, Nat.le_refl _, ?_⟩
 rw [IsTys, IsTys]
 exact ⟨⟨_, 0, v0, v1, v2, v3, v4, rfl, cell_of hb 0, cell_of hb 1, cell_of hb 2, cell_of hb 3, cell_of hb 4, IsTy.below (zdZ (World.grownBy_alloc w _ none)) _ _ h⟩, trivial⟩
theorem TyRow.new2 {w : World} {v0 v1 v2 v3 v4 u0 u1 u2 u3 u4 : Value} {t s : Sx.Ty} (h : IsTy w (.agg #[v0, v1, v2, v3, v4]) t) (h' : IsTy w (.agg #[u0, u1, u2, u3, u4]) s) :
  TyRow (w.alloc (.cells #[v0, v1, v2, v3, v4, u0, u1, u2, u3, u4] 26)) (.slice (some ⟨w.heap.size, 0, none⟩) 2 2) [t, s] := by
 have hb := heap_alloc_new w (.cells #[v0, v1, v2, v3, v4, u0, u1, u2, u3, u4] 26)
 refine ⟨_, 2, rfl, Nat.le_refl _, ?_⟩
 rw [IsTys, IsTys, IsTys]
 exact ⟨⟨_, 0, v0, v1, v2, v3, v4, rfl, cell_of hb 0, cell_of hb 1, cell_of hb 2, cell_of hb 3, cell_of hb 4, IsTy.below (zdZ (World.grownBy_alloc w _ none)) _ _ h⟩,
  ⟨_, 0, u0, u1, u2, u3, u4, rfl, cell_of hb 5, cell_of hb 6, cell_of hb 7, cell_of hb 8, cell_of hb 9, IsTy.below (zdZ (World.grownBy_alloc w _ none)) _ _ h'⟩, trivial⟩
theorem IsEx.made {w : World} {pos k n : Int} {s : Lx.Bytes} {vt vn vp : Value} {t : List Sx.Ty} {ns : List Lx.Bytes} {ps : List Sx.Ex} (h1 : TyRow w vt t) (h2 : StrRow w vn ns) (h3 : ExRow w vp ps) (hn0 : -9223372036854775808 ≤ n) (hn1 : n ≤ 9223372036854775807) :
  IsEx w (.agg #[.int .i64 pos, .int .i64 k, .int .i64 n, .string ⟨s.toArray⟩, vt, vn, vp]) (.mk pos k n s t ns ps) := by
 obtain ⟨A, c, rfl, hc, hl⟩ := h3
 rw [IsEx]
 exact ⟨vt, vn, A, c, rfl, h1, h2, hc, hl, hn0, hn1⟩
theorem ExRow.new1 {w : World} {v0 v1 v2 v3 v4 v5 v6 : Value} {t : Sx.Ex} (h : IsEx w (.agg #[v0, v1, v2, v3, v4, v5, v6]) t) :
  ExRow (w.alloc (.cells #[v0, v1, v2, v3, v4, v5, v6] 39)) (.slice (some ⟨w.heap.size, 0, none⟩) 1 1) [t] := by
 have hb := heap_alloc_new w (.cells #[v0, v1, v2, v3, v4, v5, v6] 39)
 refine ⟨_, 1, rfl, Nat.le_refl _, ?_⟩
 rw [IsExs, IsExs]
 exact ⟨⟨_, 0, v0, v1, v2, v3, v4, v5, v6, rfl, cell_of hb 0, cell_of hb 1, cell_of hb 2, cell_of hb 3, cell_of hb 4, cell_of hb 5, cell_of hb 6, IsEx.below (zdZ (World.grownBy_alloc w _ none)) _ _ h⟩, trivial⟩
theorem ExRow.new2 {w : World} {v0 v1 v2 v3 v4 v5 v6 u0 u1 u2 u3 u4 u5 u6 : Value} {t s : Sx.Ex} (h : IsEx w (.agg #[v0, v1, v2, v3, v4, v5, v6]) t) (h' : IsEx w (.agg #[u0, u1, u2, u3, u4, u5, u6]) s) :
  ExRow (w.alloc (.cells #[v0, v1, v2, v3, v4, v5, v6, u0, u1, u2, u3, u4, u5, u6] 39)) (.slice (some ⟨w.heap.size, 0, none⟩) 2 2) [t, s] := by
 have hb := heap_alloc_new w (.cells #[v0, v1, v2, v3, v4, v5, v6, u0, u1, u2, u3, u4, u5, u6] 39)
 refine ⟨_, 2, rfl, Nat.le_refl _, ?_⟩
 rw [IsExs, IsExs, IsExs]
 exact ⟨⟨_, 0, v0, v1, v2, v3, v4, v5, v6, rfl, cell_of hb 0, cell_of hb 1, cell_of hb 2, cell_of hb 3, cell_of hb 4, cell_of hb 5, cell_of hb 6, IsEx.below (zdZ (World.grownBy_alloc w _ none)) _ _ h⟩,
  ⟨_, 0, u0, u1, u2, u3, u4, u5, u6, rfl, cell_of hb 7, cell_of hb 8, cell_of hb 9, cell_of hb 10, cell_of hb 11, cell_of hb 12, cell_of hb 13, IsEx.below (zdZ (World.grownBy_alloc w _ none)) _ _ h'⟩, trivial⟩
set_option maxHeartbeats 2000000 in
theorem lawTy (k : Int) (A : Option Addr) (n c : Nat) (w : World) : Calls Tryz.prog 12 #[.int .i64 k, .slice A n c] w fun e w' => e = .returned (.agg #[.int .i64 k, .string ⟨#[]⟩, .slice none 0 0, .slice none 0 0, .slice A n c]) ∧ Below w.heap.size w w' := by
 go_enter Tryz.func12, Tryz.ntmps12
 go_wp2
 refine bodyPost_ret (v := .agg #[.int .i64 k, .string ⟨#[]⟩, .slice none 0 0, .slice none 0 0, .slice A n c]) (by simp [results, Tryz.results12, go_sem]) rfl ⟨rfl, ?_⟩
 exact (Below.refl _ _).alloc (Nat.le_refl _) _
set_option maxHeartbeats 2000000 in
theorem zenZ (s : ByteArray) (w : World) : Calls Tryz.prog 13 #[.string s] w fun e w' => e = .returned (.agg #[.int .i64 4, .string s, .slice none 0 0, .slice none 0 0, .slice none 0 0]) ∧ Below w.heap.size w w' := by
 go_enter Tryz.func13, Tryz.ntmps13
 go_wp2
 refine bodyPost_ret (v := .agg #[.int .i64 4, .string s, .slice none 0 0, .slice none 0 0, .slice none 0 0]) (by simp [results, Tryz.results13, go_sem]) rfl ⟨rfl, ?_⟩
 exact (Below.refl _ _).alloc (Nat.le_refl _) _
set_option maxHeartbeats 2000000 in
theorem lawNum (n : Int) (w : World) : Calls Tryz.prog 22 #[.int .i64 n] w fun e w' => e = .returned (.agg #[.int .i64 0, .int .i64 1, .int .i64 n, .string ⟨#[]⟩, .slice none 0 0, .slice none 0 0, .slice none 0 0]) ∧ Below w.heap.size w w' := by
 go_enter Tryz.func22, Tryz.ntmps22
 go_wp2
 refine bodyPost_ret (v := .agg #[.int .i64 0, .int .i64 1, .int .i64 n, .string ⟨#[]⟩, .slice none 0 0, .slice none 0 0, .slice none 0 0]) (by simp [results, Tryz.results22, go_sem]) rfl ⟨rfl, ?_⟩
 exact (Below.refl _ _).alloc (Nat.le_refl _) _
set_option maxHeartbeats 2000000 in
theorem zbrZ (s : ByteArray) (w : World) : Calls Tryz.prog 19 #[.string s] w fun e w' => e = .returned (.agg #[.int .i64 0, .int .i64 4, .int .i64 0, .string s, .slice none 0 0, .slice none 0 0, .slice none 0 0]) ∧ Below w.heap.size w w' := by
 go_enter Tryz.func19, Tryz.ntmps19
 go_wp2
 refine bodyPost_ret (v := .agg #[.int .i64 0, .int .i64 4, .int .i64 0, .string s, .slice none 0 0, .slice none 0 0, .slice none 0 0]) (by simp [results, Tryz.results19, go_sem]) rfl ⟨rfl, ?_⟩
 exact (Below.refl _ _).alloc (Nat.le_refl _) _
end Go.Proofs.YtdncljdfmdgdaaaGreatDoor
namespace Go.Proofs.YtdncljdfmdgdaaaGreatDoor
open Go.RowKit Go.Shelf
set_option linter.unusedSimpArgs false
set_option linter.unusedVariables false
theorem ownNew (w : World) (base : Nat) (c : UInt8) (hb : base ≤ w.heap.size) : OwnB (w.alloc (.cells #[.int .u8 (c.toNat : Int)] 5)) base (.slice (some ⟨w.heap.size, 0, none⟩) 1 1) [c] :=
 ⟨rfl, .inr ⟨w.heap.size, 1, #[.int .u8 (c.toNat : Int)], rfl, hb, heap_alloc_new w _, Nat.le_refl _, by unfold maxLen; omega, rfl, rfl⟩⟩
theorem LW.trans {w W X : World} (h : LW w W) (h' : LW W X) : LW w X := ⟨h.b.trans (h'.b.mono h.b.size), h'.g, h'.n⟩
theorem LW.self {w W : World} (h : LW w W) : LW W W := LW.refl h.g h.n
end Go.Proofs.YtdncljdfmdgdaaaGreatDoor
namespace Go.Proofs.YtdncljdfmdgdaaaGreatDoor
open Go.RowKit Go.Shelf
set_option linter.unusedSimpArgs false
set_option linter.unusedVariables false
def RunsOk : Prop := ∀ (w0 : World), GL w0 → NG ≤ w0.heap.size → Calls Tryz.prog 3 #[] w0 fun e w' => e = .returned (.bool true) ∧ LW w0 w'
theorem RunsOk.at (h : RunsOk) {w X : World} (hX : LW w X) : Calls Tryz.prog 3 #[] X fun e w' => e = .returned (.bool true) ∧ LW w w' :=
 (h X hX.g hX.n).mono fun e w' ⟨h1, h2⟩ => ⟨h1, hX.go h2.b⟩
def boxT (a : Sx.Ty) (A1 : Option Addr) (c1 : Nat) (A2 : Option Addr) (c2 : Nat) (A3 : Option Addr) (c3 : Nat) : Array Value :=
 #[.int .i64 a.kind, .string ⟨a.name.toArray⟩, .slice A1 a.names.length c1, .slice A2 a.embeds.length c2, .slice A3 a.parts.length c3]
structure TwoSt (w : World) (c0 c1 : Array Value) (X : World) : Prop where
 lw : LW w X
 k0 : X.heap[w.heap.size]? = some (.cells c0 26 (0, 0))
 k1 : X.heap[w.heap.size + 1]? = some (.cells c1 26 (0, 0))
theorem TwoSt.go {w X X' : World} {c0 c1 : Array Value} (h : TwoSt w c0 c1 X) (hb : Below X.heap.size X X') : TwoSt w c0 c1 X' :=
 ⟨h.lw.go hb, (hb.block _ (zaZ h.k0)).trans h.k0, (hb.block _ (zaZ h.k1)).trans h.k1⟩
theorem TwoSt.lt {w X : World} {c0 c1 : Array Value} (h : TwoSt w c0 c1 X) : w.heap.size < X.heap.size ∧ w.heap.size + 1 < X.heap.size := ⟨zaZ h.k0, zaZ h.k1⟩
theorem TwoSt.first {w : World} (hG : GL w) (hN : NG ≤ w.heap.size) (c0 c1 : Array Value) : TwoSt w c0 c1 ((w.alloc (.cells c0 26)).alloc (.cells c1 26)) := by
 refine ⟨((LW.refl hG hN).alloc _).alloc _, heap_alloc (heap_alloc_new w _) _, ?_⟩
 have := heap_alloc_new (w.alloc (.cells c0 26)) (.cells c1 26)
 rw [show (w.alloc (.cells c0 26)).heap.size = w.heap.size + 1 by simp] at this
 exact this
end Go.Proofs.YtdncljdfmdgdaaaGreatDoor
namespace Go.Proofs.YtdncljdfmdgdaaaGreatDoor
set_option linter.unusedVariables false
mutual
def Sx.sizeS : Sx.St → Nat
 | .mk _ _ nm t x b e => 1 + nm.length + Sx.sizeL t + Sx.sizeXs x + Sx.sizeSs b + Sx.sizeSs e
def Sx.sizeSs : List Sx.St → Nat
 | [] => 0
 | s :: l => Sx.sizeS s + Sx.sizeSs l
end
theorem Sx.sizeS_parts (s : Sx.St) : Sx.sizeS s = 1 + s.name.length + Sx.sizeL s.t + Sx.sizeXs s.x + Sx.sizeSs s.body + Sx.sizeSs s.els := by cases s; rw [Sx.sizeS]; rfl
theorem Sx.sizeS_pos (s : Sx.St) : 1 ≤ Sx.sizeS s := by rw [Sx.sizeS_parts]; omega
theorem Sx.sizeS_mem : ∀ {l : List Sx.St} {x : Sx.St}, x ∈ l → Sx.sizeS x ≤ Sx.sizeSs l
 | u :: l, t, h => by
  rw [Sx.sizeSs]
  rcases List.mem_cons.1 h with rfl | h
  ·omega
  ·have := Sx.sizeS_mem h; omega
theorem Sx.length_sizeSs : ∀ (l : List Sx.St), l.length ≤ Sx.sizeSs l
 | [] => by simp [Sx.sizeSs]
 | t :: l => by
  rw [Sx.sizeSs, List.length_cons]
  have := Sx.length_sizeSs l
  have := Sx.sizeS_pos t
  omega
end Go.Proofs.YtdncljdfmdgdaaaGreatDoor
namespace Go.Proofs.YtdncljdfmdgdaaaGreatDoor
open Go.Proofs.YtdncljdfmdgdaaaGreatDoor.Lx (Bytes)
set_option linter.unusedSimpArgs false
set_option linter.unusedVariables false
namespace Sx
mutual
theorem typ_len : ∀ (t : Ty), (typ t).length + 3 ≤ 8 * size t
 | .mk k n ns es ps => by
  have h1 := zmrZ ps
  have h2 := fields_len ns es ps
  have h3 := params_len 0 ps
  have h4 := methods_len ns ps
  rw [typ, size]
  split
  ·simp; omega
  split
  ·simp; omega
  split
  ·simp; omega
  split
  ·simp; omega
  split
  ·simp; omega
  split
  ·simp; omega
  split
  ·simp; omega
  split
  ·simp; omega
  ·simp; omega
theorem zmrZ : ∀ (l : List Ty), (typL l).length ≤ 8 * sizeL l
 | [] => by simp [typL]
 | t :: l => by
  rw [typL, sizeL]
  have := typ_len t
  omega
theorem fields_len : ∀ (ns : List Bytes) (es : List Bool) (l : List Ty), (fields ns es l).length ≤ 8 * sizeL l
 | ns, es, [] => by cases ns <;> cases es <;> simp [fields]
 | [], es, t :: l => by simp [fields]
 | n :: ns, [], t :: l => by simp [fields]
 | n :: ns, e :: es, t :: l => by
  rw [fields, sizeL]
  have h1 := typ_len t
  have h2 := fields_len ns es l
  simp only [List.length_append, List.length_cons, List.length_nil]
  split <;> simp <;> omega
theorem params_len : ∀ (i : Nat) (l : List Ty), (params i l).length ≤ 8 * sizeL l
 | i, [] => by simp [params]
 | i, t :: l => by
  rw [params, sizeL]
  have h1 := typ_len t
  have h2 := params_len (i + 1) l
  split
  ·simp; omega
  ·simp only [List.length_append]
   split <;> simp <;> omega
theorem methods_len : ∀ (ns : List Bytes) (l : List Ty), (methods ns l).length ≤ 8 * sizeL l
 | ns, [] => by cases ns <;> simp [methods]
 | [], t :: l => by simp [methods]
 | n :: ns, t :: l => by
  rw [methods, sizeL]
  have h1 := zgfZ t
  have h2 := methods_len ns l
  simp only [List.length_append, List.length_cons, List.length_nil]
  omega
theorem zgfZ : ∀ (t : Ty), (signature t).length + 2 ≤ 8 * size t
 | .mk k n ns es ps => by
  have h3 := params_len 0 ps
  rw [signature, size]
  simp
  omega
end
end Sx
end Go.Proofs.YtdncljdfmdgdaaaGreatDoor
namespace Go.Proofs.YtdncljdfmdgdaaaGreatDoor
open Go.Proofs.YtdncljdfmdgdaaaGreatDoor.Lx (Bytes)
set_option linter.unusedSimpArgs false
set_option linter.unusedVariables false
namespace Sx
def Tk (s : Bytes) : Prop := ∃ t : Lx.Tok, Lx.written t = (s, true)
theorem Tk.ne {s : Bytes} (h : Tk s) : s ≠ [] := by
 obtain ⟨t, ht⟩ := h
 have hf := Lx.form_of_written (t := t) (by rw [ht])
 rw [ht] at hf
 obtain ⟨c, l, e, -⟩ := Lx.form_begins hf
 simp only at e
 rw [e]
 exact List.cons_ne_nil _ _
theorem zecZ {k : Int} (hk : k = 1 ∨ k = 2 ∨ k = 3) {s : Bytes} (h : isTok k s = true) : Tk s := by
 refine ⟨⟨0, k, s, 0⟩, ?_⟩
 have hw : (Lx.written ⟨0, k, s, 0⟩).2 = true := by
  cases h2 : (Lx.written ⟨0, k, s, 0⟩).2 with
  | true => rfl
  | false =>
   unfold isTok at h
   rw [Lx.join_one_bad h2] at h
   simp at h
 have hr : Lx.raw ⟨0, k, s, 0⟩ = some s := by
  unfold Lx.raw
  rw [if_pos (by simp only; omega)]
 have hf := Lx.form_raw (Lx.form_of_written hw)
 rw [Lx.raw_bare, hr] at hf
 injection hf with hf
 rw [Prod.ext_iff]
 exact ⟨hf.symm, hw⟩
theorem zhjZ {s : Bytes} (h : NM.small s = true) : Tk s := zecZ (k := 1) (.inl rfl) h
theorem zmsZ {s : Bytes} (h : NM.great s = true) : Tk s := zecZ (k := 2) (.inr (.inl rfl)) h
theorem tkInt : Tk [105, 110, 116] := ⟨⟨0, 3, [105, 110, 116], 0⟩, by kernel_rfl⟩
theorem tkBool : Tk [98, 111, 111, 108] := ⟨⟨0, 3, [98, 111, 111, 108], 0⟩, by kernel_rfl⟩
theorem tkText : Tk [116, 101, 120, 116] := ⟨⟨0, 3, [116, 101, 120, 116], 0⟩, by kernel_rfl⟩
theorem tkStar : Tk [42] := ⟨⟨0, 6, [42], 0⟩, by kernel_rfl⟩
theorem tkOpen : Tk [123] := ⟨⟨0, 6, [123], 0⟩, by kernel_rfl⟩
theorem tkShut : Tk [125] := ⟨⟨0, 6, [125], 0⟩, by kernel_rfl⟩
theorem tkParen : Tk [40] := ⟨⟨0, 6, [40], 0⟩, by kernel_rfl⟩
theorem tkEnd : Tk [41] := ⟨⟨0, 6, [41], 0⟩, by kernel_rfl⟩
theorem tkSemi : Tk [59] := ⟨⟨0, 6, [59], 0⟩, by kernel_rfl⟩
theorem tkComma : Tk [44] := ⟨⟨0, 6, [44], 0⟩, by kernel_rfl⟩
theorem tkFn : Tk [102, 110] := ⟨⟨0, 3, [102, 110], 0⟩, by kernel_rfl⟩
theorem tkIface : Tk [105, 110, 116, 101, 114, 102, 97, 99, 101] := ⟨⟨0, 3, [105, 110, 116, 101, 114, 102, 97, 99, 101], 0⟩, by kernel_rfl⟩
theorem tkEmbed : Tk [101, 109, 98, 101, 100] := ⟨⟨0, 3, [101, 109, 98, 101, 100], 0⟩, by kernel_rfl⟩
/-! ### which tokens a list has -/
def Tks (l : List Bytes) : Prop := ∀ s ∈ l, Tk s
theorem Tks.nil : Tks [] := fun s h => by cases h
theorem Tks.cons {s : Bytes} {l : List Bytes} (h : Tk s) (hl : Tks l) : Tks (s :: l) := fun u hu => by
 rcases List.mem_cons.1 hu with rfl | hu
 ·exact h
 ·exact hl u hu
theorem Tks.app {l m : List Bytes} (h : Tks l) (k : Tks m) : Tks (l ++ m) := fun u hu => by
 rcases List.mem_append.1 hu with hu | hu
 ·exact h u hu
 ·exact k u hu
theorem Tks.ite {c : Prop} [Decidable c] {l m : List Bytes} (h : c → Tks l) (k : ¬ c → Tks m) : Tks (if c then l else m) := by
 split
 ·exact h ‹_›
 ·exact k ‹_›
theorem zfdZ : ∀ {ns : List Bytes} {es : List Bool} {ps : List Ty}, (∀ n ∈ ns, Tk n) → (∀ p ∈ ps, Tks (typ p)) → Tks (fields ns es ps)
 | [], es, ps, hn, hp => by rw [fields]; exact Tks.nil; simp
 | n :: ns, [], ps, hn, hp => by rw [fields]; exact Tks.nil; simp
 | n :: ns, e :: es, [], hn, hp => by rw [fields]; exact Tks.nil; simp
 | n :: ns, e :: es, t :: ps, hn, hp => by
  rw [fields]
  exact (((Tks.ite (fun _ => Tks.cons tkEmbed Tks.nil) (fun _ => Tks.nil))).app (((Tks.cons (hn n List.mem_cons_self) Tks.nil).app (hp t List.mem_cons_self)).app (Tks.cons tkSemi Tks.nil))).app
   (zfdZ (fun m hm => hn m (List.mem_cons_of_mem _ hm)) (fun p hq => hp p (List.mem_cons_of_mem _ hq)))
theorem zcwZ : ∀ {ps : List Ty} {i : Nat}, (∀ p ∈ ps, Tks (typ p)) → Tks (params i ps)
 | [], i, hp => by rw [params]; exact Tks.nil
 | t :: ps, i, hp => by
  rw [params]
  refine Tks.ite (fun _ => (Tks.cons tkEnd Tks.nil).app (hp t List.mem_cons_self)) (fun _ => ?_)
  exact ((Tks.ite (fun _ => Tks.cons tkComma Tks.nil) (fun _ => Tks.nil)).app (hp t List.mem_cons_self)).app (zcwZ fun p hq => hp p (List.mem_cons_of_mem _ hq))
theorem zedZ : ∀ {ns : List Bytes} {ps : List Ty}, (∀ n ∈ ns, Tk n) → (∀ p ∈ ps, Tks (signature p)) → Tks (methods ns ps)
 | [], ps, hn, hp => by rw [methods]; exact Tks.nil; simp
 | n :: ns, [], hn, hp => by rw [methods]; exact Tks.nil; simp
 | n :: ns, t :: ps, hn, hp => by
  rw [methods]
  exact (((Tks.cons (hn n List.mem_cons_self) Tks.nil).app (hp t List.mem_cons_self)).app (Tks.cons tkSemi Tks.nil)).app (zedZ (fun m hm => hn m (List.mem_cons_of_mem _ hm)) (fun p hq => hp p (List.mem_cons_of_mem _ hq)))
theorem zmtZ : ∀ (n : Nat) (t : Ty), size t ≤ n → ∀ d, rightT NM d t = true → Tks (typ t) ∧ Tks (signature t) := by
 intro n
 induction n with
 | zero => intro t h; have := size_pos t; omega
 | succ n ih =>
  intro t hn d h
  cases t with
  | mk k nm ns es ps =>
   cases d with
   | zero => simp [rightT] at h
   | succ d =>
    rw [rightT, Bool.and_eq_true] at h
    obtain ⟨hr, hs⟩ := h
    have hmem : ∀ (l : List Ty), rightTs NM d l = true → ∀ p ∈ l, rightT NM d p = true := by
     intro l
     induction l with
     | nil => intro _ p hp; cases hp
     | cons u l ihl =>
      intro h p hp
      rw [rightTs, Bool.and_eq_true] at h
      rcases List.mem_cons.1 hp with rfl | hp
      ·exact h.1
      ·exact ihl h.2 p hp
    rw [size] at hn
    have hall : ∀ p ∈ ps, Tks (typ p) ∧ Tks (signature p) := fun p hp => ih p (by have := size_mem hp; omega) d (hmem ps hr p hp)
    have hp1 : ∀ p ∈ ps, Tks (typ p) := fun p hp => (hall p hp).1
    have hsig : Tks (signature (.mk k nm ns es ps)) := by
     rw [signature]
     exact (Tks.cons tkParen Tks.nil).app (zcwZ hp1)
    refine ⟨?_, hsig⟩
    rw [typ]
    refine Tks.ite (fun _ => Tks.cons tkInt Tks.nil) fun e1 => Tks.ite (fun _ => Tks.cons tkBool Tks.nil) fun e2 => Tks.ite (fun _ => Tks.cons tkText Tks.nil) fun e3 => Tks.ite (fun e4 => ?_) fun e4 => Tks.ite (fun _ => ?_) fun e5 =>
     Tks.ite (fun e6 => ?_) fun e6 => Tks.ite (fun _ => ?_) fun e7 => Tks.ite (fun e8 => ?_) fun _ => Tks.nil
    ·rw [shape, if_neg (by omega), if_pos e4] at hs
     simp only [Bool.and_eq_true] at hs
     exact Tks.cons (zmsZ hs.1.1.1) Tks.nil
    ·refine Tks.cons tkStar ?_
     cases ps with
     | nil => rw [typL]; exact Tks.nil
     | cons p ps => rw [typL]; exact hp1 p List.mem_cons_self
    ·have hq : apart NM ns = true := by
      rw [shape, if_neg (by omega), if_neg e4, if_neg e5, if_neg (by omega), if_pos e6] at hs
      simp only [Bool.and_eq_true] at hs
      exact hs.2
     exact ((Tks.cons tkOpen Tks.nil).app (zfdZ (fun m hm => zhjZ (apart_small hq m hm)) hp1)).app (Tks.cons tkShut Tks.nil)
    ·exact (Tks.cons tkFn Tks.nil).app ((Tks.cons tkParen Tks.nil).app (zcwZ hp1))
    ·have hq : apart NM ns = true := by
      rw [shape, if_neg (by omega), if_neg e4, if_neg e5, if_neg e7, if_neg e6, if_pos e8] at hs
      simp only [Bool.and_eq_true] at hs
      exact hs.2.2
     exact ((Tks.cons tkIface (Tks.cons tkOpen Tks.nil)).app (zedZ (fun m hm => zhjZ (apart_small hq m hm)) (fun p hp => (hall p hp).2))).app (Tks.cons tkShut Tks.nil)
theorem tks_typ {t : Ty} {d : Nat} (h : rightT NM d t = true) : Tks (typ t) := (zmtZ _ t (Nat.le_refl _) d h).1
mutual
def numX : Ex → Prop
 | .mk _ _ n _ _ _ ps => n ≤ 9223372036854775807 ∧ numXs ps
def numXs : List Ex → Prop
 | [] => True
 | x :: l => numX x ∧ numXs l
end
mutual
def numS : St → Prop
 | .mk _ _ _ _ x b e => numXs x ∧ numSs b ∧ numSs e
def numSs : List St → Prop
 | [] => True
 | s :: l => numS s ∧ numSs l
end
/-! ### the texts of several, one behind the other -/
end Sx
mutual
theorem IsEx.num {W : World} : ∀ (t : Sx.Ex) (v : Value), IsEx W v t → Sx.numX t
 | .mk pos k n s t ns ps, v, h => by
  rw [IsEx] at h
  obtain ⟨vt, vn, A0, c0, hv, h0, h1, a0, b0, e0, e1⟩ := h
  rw [Sx.numX]
  exact ⟨e1, IsExs.num ps A0 0 b0⟩
theorem IsExs.num {W : World} : ∀ (l : List Sx.Ex) (A : Option Addr) (i : Nat), IsExs W A i l → Sx.numXs l
 | [], A, i, h => by rw [Sx.numXs]; trivial
 | t :: l, A, i, h => by
  rw [IsExs] at h
  obtain ⟨⟨g, off, v0, v1, v2, v3, v4, v5, v6, hA, k0, k1, k2, k3, k4, k5, k6, ht⟩, hl⟩ := h
  rw [Sx.numXs]
  exact ⟨IsEx.num t _ ht, IsExs.num l A (i + 1) hl⟩
end
theorem ExRow.num {W : World} {v : Value} {l : List Sx.Ex} (h : ExRow W v l) : Sx.numXs l := by
 obtain ⟨A, c, rfl, hc, hl⟩ := h
 exact IsExs.num l A 0 hl
mutual
theorem IsSt.num {W : World} : ∀ (t : Sx.St) (v : Value), IsSt W v t → Sx.numS t
 | .mk pos k nm t x b e, v, h => by
  rw [IsSt] at h
  obtain ⟨vt, vx, A0, c0, A1, c1, hv, h0, h1, a0, b0, a1, b1⟩ := h
  rw [Sx.numS]
  exact ⟨h1.num, IsSts.num b A0 0 b0, IsSts.num e A1 0 b1⟩
theorem IsSts.num {W : World} : ∀ (l : List Sx.St) (A : Option Addr) (i : Nat), IsSts W A i l → Sx.numSs l
 | [], A, i, h => by rw [Sx.numSs]; trivial
 | t :: l, A, i, h => by
  rw [IsSts] at h
  obtain ⟨⟨g, off, v0, v1, v2, v3, v4, v5, v6, hA, k0, k1, k2, k3, k4, k5, k6, ht⟩, hl⟩ := h
  rw [Sx.numSs]
  exact ⟨IsSt.num t _ ht, IsSts.num l A (i + 1) hl⟩
end
theorem StRow.num {W : World} {v : Value} {l : List Sx.St} (h : StRow W v l) : Sx.numSs l := by
 obtain ⟨A, c, rfl, hc, hl⟩ := h
 exact IsSts.num l A 0 hl
end Go.Proofs.YtdncljdfmdgdaaaGreatDoor
namespace Go.Proofs.YtdncljdfmdgdaaaGreatDoor
open Go.Proofs.YtdncljdfmdgdaaaGreatDoor.Lx (Bytes)
set_option linter.unusedSimpArgs false
set_option linter.unusedVariables false
namespace Sx
def Lk (s : Bytes) : Prop := s.length ≤ 100000
theorem zivZ {r : Bytes} {t : Lx.Tok} (h : Lx.Form r t) (hk : t.kind = 1 ∨ t.kind = 2 ∨ t.kind = 3) : t.s.length ≤ 32 := by
 cases h with
 | name c s hc hs hl => exact hl
 | number c s hs hv hz => simp at hk
 | text u hu => simp at hk
 | two => simp at hk
 | sign c hc => simp at hk
theorem zeeZ {k : Int} (hk : k = 1 ∨ k = 2 ∨ k = 3) {s : Bytes} (h : isTok k s = true) : Lk s := by
 have hw : (Lx.written ⟨0, k, s, 0⟩).2 = true := by
  cases h2 : (Lx.written ⟨0, k, s, 0⟩).2 with
  | true => rfl
  | false =>
   unfold isTok at h
   rw [Lx.join_one_bad h2] at h
   simp at h
 have := zivZ (Lx.form_of_written hw) hk
 have h2 : s.length ≤ 32 := this
 unfold Lk
 omega
theorem zhkZ {s : Bytes} (h : NM.small s = true) : Lk s := zeeZ (k := 1) (.inl rfl) h
theorem zmuZ {s : Bytes} (h : NM.great s = true) : Lk s := zeeZ (k := 2) (.inr (.inl rfl)) h
theorem lkInt : Lk [105, 110, 116] := by unfold Lk; decide
theorem lkBool : Lk [98, 111, 111, 108] := by unfold Lk; decide
theorem lkText : Lk [116, 101, 120, 116] := by unfold Lk; decide
theorem lkStar : Lk [42] := by unfold Lk; decide
theorem lkOpen : Lk [123] := by unfold Lk; decide
theorem lkShut : Lk [125] := by unfold Lk; decide
theorem lkParen : Lk [40] := by unfold Lk; decide
theorem lkEnd : Lk [41] := by unfold Lk; decide
theorem lkSemi : Lk [59] := by unfold Lk; decide
theorem lkComma : Lk [44] := by unfold Lk; decide
theorem lkFn : Lk [102, 110] := by unfold Lk; decide
theorem lkIface : Lk [105, 110, 116, 101, 114, 102, 97, 99, 101] := by unfold Lk; decide
theorem lkEmbed : Lk [101, 109, 98, 101, 100] := by unfold Lk; decide
/-! ### which tokens a list has -/
def Lks (l : List Bytes) : Prop := ∀ s ∈ l, Lk s
theorem Lks.nil : Lks [] := fun s h => by cases h
theorem Lks.cons {s : Bytes} {l : List Bytes} (h : Lk s) (hl : Lks l) : Lks (s :: l) := fun u hu => by
 rcases List.mem_cons.1 hu with rfl | hu
 ·exact h
 ·exact hl u hu
theorem Lks.app {l m : List Bytes} (h : Lks l) (k : Lks m) : Lks (l ++ m) := fun u hu => by
 rcases List.mem_append.1 hu with hu | hu
 ·exact h u hu
 ·exact k u hu
theorem Lks.ite {c : Prop} [Decidable c] {l m : List Bytes} (h : c → Lks l) (k : ¬ c → Lks m) : Lks (if c then l else m) := by
 split
 ·exact h ‹_›
 ·exact k ‹_›
theorem zfeZ : ∀ {ns : List Bytes} {es : List Bool} {ps : List Ty}, (∀ n ∈ ns, Lk n) → (∀ p ∈ ps, Lks (typ p)) → Lks (fields ns es ps)
 | [], es, ps, hn, hp => by rw [fields]; exact Lks.nil; simp
 | n :: ns, [], ps, hn, hp => by rw [fields]; exact Lks.nil; simp
 | n :: ns, e :: es, [], hn, hp => by rw [fields]; exact Lks.nil; simp
 | n :: ns, e :: es, t :: ps, hn, hp => by
  rw [fields]
  exact (((Lks.ite (fun _ => Lks.cons lkEmbed Lks.nil) (fun _ => Lks.nil))).app (((Lks.cons (hn n List.mem_cons_self) Lks.nil).app (hp t List.mem_cons_self)).app (Lks.cons lkSemi Lks.nil))).app
   (zfeZ (fun m hm => hn m (List.mem_cons_of_mem _ hm)) (fun p hq => hp p (List.mem_cons_of_mem _ hq)))
theorem zcxZ : ∀ {ps : List Ty} {i : Nat}, (∀ p ∈ ps, Lks (typ p)) → Lks (params i ps)
 | [], i, hp => by rw [params]; exact Lks.nil
 | t :: ps, i, hp => by
  rw [params]
  refine Lks.ite (fun _ => (Lks.cons lkEnd Lks.nil).app (hp t List.mem_cons_self)) (fun _ => ?_)
  exact ((Lks.ite (fun _ => Lks.cons lkComma Lks.nil) (fun _ => Lks.nil)).app (hp t List.mem_cons_self)).app (zcxZ fun p hq => hp p (List.mem_cons_of_mem _ hq))
theorem zefZ : ∀ {ns : List Bytes} {ps : List Ty}, (∀ n ∈ ns, Lk n) → (∀ p ∈ ps, Lks (signature p)) → Lks (methods ns ps)
 | [], ps, hn, hp => by rw [methods]; exact Lks.nil; simp
 | n :: ns, [], hn, hp => by rw [methods]; exact Lks.nil; simp
 | n :: ns, t :: ps, hn, hp => by
  rw [methods]
  exact (((Lks.cons (hn n List.mem_cons_self) Lks.nil).app (hp t List.mem_cons_self)).app (Lks.cons lkSemi Lks.nil)).app (zefZ (fun m hm => hn m (List.mem_cons_of_mem _ hm)) (fun p hq => hp p (List.mem_cons_of_mem _ hq)))
theorem zmvZ : ∀ (n : Nat) (t : Ty), size t ≤ n → ∀ d, rightT NM d t = true → Lks (typ t) ∧ Lks (signature t) := by
 intro n
 induction n with
 | zero => intro t h; have := size_pos t; omega
 | succ n ih =>
  intro t hn d h
  cases t with
  | mk k nm ns es ps =>
   cases d with
   | zero => simp [rightT] at h
   | succ d =>
    rw [rightT, Bool.and_eq_true] at h
    obtain ⟨hr, hs⟩ := h
    have hmem : ∀ (l : List Ty), rightTs NM d l = true → ∀ p ∈ l, rightT NM d p = true := by
     intro l
     induction l with
     | nil => intro _ p hp; cases hp
     | cons u l ihl =>
      intro h p hp
      rw [rightTs, Bool.and_eq_true] at h
      rcases List.mem_cons.1 hp with rfl | hp
      ·exact h.1
      ·exact ihl h.2 p hp
    rw [size] at hn
    have hall : ∀ p ∈ ps, Lks (typ p) ∧ Lks (signature p) := fun p hp => ih p (by have := size_mem hp; omega) d (hmem ps hr p hp)
    have hp1 : ∀ p ∈ ps, Lks (typ p) := fun p hp => (hall p hp).1
    have hsig : Lks (signature (.mk k nm ns es ps)) := by
     rw [signature]
     exact (Lks.cons lkParen Lks.nil).app (zcxZ hp1)
    refine ⟨?_, hsig⟩
    rw [typ]
    refine Lks.ite (fun _ => Lks.cons lkInt Lks.nil) fun e1 => Lks.ite (fun _ => Lks.cons lkBool Lks.nil) fun e2 => Lks.ite (fun _ => Lks.cons lkText Lks.nil) fun e3 => Lks.ite (fun e4 => ?_) fun e4 => Lks.ite (fun _ => ?_) fun e5 =>
     Lks.ite (fun e6 => ?_) fun e6 => Lks.ite (fun _ => ?_) fun e7 => Lks.ite (fun e8 => ?_) fun _ => Lks.nil
    ·rw [shape, if_neg (by omega), if_pos e4] at hs
     simp only [Bool.and_eq_true] at hs
     exact Lks.cons (zmuZ hs.1.1.1) Lks.nil
    ·refine Lks.cons lkStar ?_
     cases ps with
     | nil => rw [typL]; exact Lks.nil
     | cons p ps => rw [typL]; exact hp1 p List.mem_cons_self
    ·have hq : apart NM ns = true := by
      rw [shape, if_neg (by omega), if_neg e4, if_neg e5, if_neg (by omega), if_pos e6] at hs
      simp only [Bool.and_eq_true] at hs
      exact hs.2
     exact ((Lks.cons lkOpen Lks.nil).app (zfeZ (fun m hm => zhkZ (apart_small hq m hm)) hp1)).app (Lks.cons lkShut Lks.nil)
    ·exact (Lks.cons lkFn Lks.nil).app ((Lks.cons lkParen Lks.nil).app (zcxZ hp1))
    ·have hq : apart NM ns = true := by
      rw [shape, if_neg (by omega), if_neg e4, if_neg e5, if_neg e7, if_neg e6, if_pos e8] at hs
      simp only [Bool.and_eq_true] at hs
      exact hs.2.2
     exact ((Lks.cons lkIface (Lks.cons lkOpen Lks.nil)).app (zefZ (fun m hm => zhkZ (apart_small hq m hm)) (fun p hp => (hall p hp).2))).app (Lks.cons lkShut Lks.nil)
theorem lks_typ {t : Ty} {d : Nat} (h : rightT NM d t = true) : Lks (typ t) := (zmvZ _ t (Nat.le_refl _) d h).1
end Sx
end Go.Proofs.YtdncljdfmdgdaaaGreatDoor
namespace Go.Proofs.YtdncljdfmdgdaaaGreatDoor
open Go.RowKit Go.Shelf
set_option linter.unusedSimpArgs false
set_option linter.unusedVariables false
theorem appStr2 {ops : Array Oper} {rest : List Oper} {o : Oper} {a : Act} {Q : Exit → Act → World → Prop} {W : World} (base : Nat) (hgd : o.guard = none) (s x : Operand)
  (ho : o.op = .call { callee := .builtin .append, args := #[s, x], argTypes := #[98, 9] })
  (v : Value) (l y : List UInt8) (hs : a.eval s = v) (hx : a.eval x = .string ⟨y.toArray⟩) (HO : OwnB W base v l) (hbase : base ≤ W.heap.size) (hl : l.length + y.length ≤ 140737488351232)
  (h : ∀ v1 w1, OwnB w1 base v1 (l ++ y) → W.grownBy w1 v.ownBlock → wpList Tryz.prog ops Q rest (a.put o.dst v1) w1) :
  wpList Tryz.prog ops Q (o :: rest) a W := by
 obtain ⟨i0, hi, hz0, hz1, hz2⟩ := info_parts infoU8
 refine Lib.wpList_append_own_string W hgd s x 98 9 ho base 5 i0 Tryz.underlying98 Tryz.underlying9 hi hz0 hz1 hz2 v l.length (bytesV l) hs HO ⟨y.toArray⟩ hx (by unfold maxLen; show l.length + y.length ≤ _; omega) (by show l.length + y.length ≤ _; omega) hbase ?_
 intro v1 w1 hown hg _
 refine h v1 w1 ?_ hg
 unfold OwnB
 rw [List.length_append, show bytesV (l ++ y) = bytesV l ++ Lib.strCells ⟨y.toArray⟩ by unfold bytesV Lib.strCells; rw [List.map_append]]
 exact hown
namespace Sx
theorem text_step {b s : Lx.Bytes} {l : List Lx.Bytes} {i : Nat} (h : ¬ 65536 < ((if 0 < i then b ++ [32] else b) ++ s).length) : textFrom i b (s :: l) = textFrom (i + 1) ((if 0 < i then b ++ [32] else b) ++ s) l := by
 rw [textFrom, if_neg h]
theorem text_long {b s : Lx.Bytes} {l : List Lx.Bytes} {i : Nat} (h : 65536 < ((if 0 < i then b ++ [32] else b) ++ s).length) : textFrom i b (s :: l) = none := by
 rw [textFrom, if_pos h]
end Sx
set_option maxRecDepth 100000 in
set_option maxHeartbeats 4000000 in
theorem refText (ts : List Lx.Bytes) (v : Value) (w : World) (hv : StrRow w v ts) (hl : ts.length ≤ 1000000000) (hts : ∀ t ∈ ts, t.length ≤ 1000000000) :
  Calls Tryz.prog 70 #[v] w fun e w' => e = .returned (.tuple #[.string ⟨(Sx.text ts).1.toArray⟩, .int .i64 ((Sx.text ts).2 : Nat)]) ∧ Below w.heap.size w w' := by
 obtain ⟨A, c, rfl, hrow⟩ := hv
 have HV := Lib.hid (show StrRow w (.slice A ts.length c) ts from ⟨A, c, rfl, hrow⟩)
 have HTS := Lib.hid hts
 clear hrow hts
 obtain ⟨k, hk⟩ : ∃ k, ts.length = k := ⟨_, rfl⟩
 rw [hk] at HV hl ⊢
 have HK := Lib.hid hk
 have k0 : (0 : Int) ≤ (k : Int) := by omega
 have k1 : (k : Int) ≤ 1000000000 := by omega
 clear hk
 obtain ⟨i0, hi0, hz0, hz1, hz2⟩ := info_parts infoU8
 go_enter Tryz.func70, Tryz.ntmps70
 go_wp2_with (at_make; refine wpList_make_own _ rfl _ _ 98 rfl w.heap.size 5 i0 (.int .u8 0) 1 Tryz.underlying98 hi0 hz0 hz1 .i64 .i64 _ 0 rfl rfl rfl (by rw [hz2]; omega) (by unfold maxLen; omega) (Nat.le_refl _) ?_; intro W2 hown hgrow)
 have HO2 : Hid (OwnB W2 w.heap.size (.slice (some ⟨w.heap.size, 0, none⟩) 0 0) []) := Lib.hid hown
 have HB2 := Lib.hid (zdZ hgrow)
 clear hown hgrow
 go_loopg [4, 5] k (fun n v u wq => ∃ (m : Nat) (l : List UInt8), n = k - m ∧ u = .int .i64 (m : Int) ∧ m ≤ k ∧ Below w.heap.size w wq ∧ OwnB wq w.heap.size v l ∧ l.length ≤ 65536 ∧ Sx.textFrom m l (ts.drop m) = Sx.textFrom 0 [] ts)
 case atStart => exact ⟨0, [], rfl, rfl, Nat.zero_le _, HB2.out, HO2.out, by simp, rfl⟩
 case round =>
  obtain ⟨m, l, hn, rfl, hm, hb, ho, hll, he⟩ := hrel
  obtain ⟨A0, cap0, hv0⟩ := ho.slice
  subst hv0
  have HN := Lib.hid hn
  have HB := Lib.hid hb
  have HO := Lib.hid ho
  have HE := Lib.hid he
  have m0 : (0 : Int) ≤ (m : Int) := by omega
  have ll1 : (l.length : Int) ≤ 65536 := by omega
  clear hn hb ho he
  by_cases hlt : m < k
  ·have hmi : (m : Int) < (k : Int) := by omega
   have hml : m < ts.length := by have := HK.out; omega
   obtain ⟨g, off, rfl, hsp⟩ := HV.out.spot m hml
   have htl := HTS.out _ (List.getElem_mem hml)
   have hd : ts.drop m = ts[m] :: ts.drop (m + 1) := List.drop_eq_getElem_cons hml
   obtain ⟨x, hx⟩ : ∃ x, ts[m]'hml = x := ⟨_, rfl⟩
   rw [hx] at hsp htl hd
   have HSP := Lib.hid hsp
   have hE2 := HE.out
   rw [hd] at hE2
   have HE2 := Lib.hid hE2
   clear hd hE2 hx hsp
   have hxl : x.length ≤ 1000000000 := htl
   by_cases hm0 : 0 < m
   ·have hm0i : (0 : Int) < (m : Int) := by omega
    go_upto_region 7 with (at_builtin; refine appByte w.heap.size rfl (.tmp 15) (.tmp 16) rfl _ l 32 rfl rfl HO.out HB.out.size (by omega) ?_; intro v1 w1 hown hgr)
    have hb1 := Below.turn (HB.out.alloc HB.out.size (.cells #[.int .u8 (UInt8.toNat 32 : Int)] 5)) hgr (fun g hg => OwnB.base HO.out g hg)
    obtain ⟨l1, hl1⟩ : ∃ l1, l ++ [32] = l1 := ⟨_, rfl⟩
    have hl1b : l1.length ≤ 65537 := by rw [← hl1]; simp; omega
    have HIF := Lib.hid (show (if 0 < m then l ++ [32] else l) = l1 by rw [if_pos hm0, hl1])
    rw [hl1] at hown
    obtain ⟨A1, cap1, hv1⟩ := hown.slice
    subst hv1
    have HO1 := Lib.hid hown
    have HB1 := Lib.hid hb1
    clear hown hb1 hgr hl1
    obtain ⟨hg, q0⟩ := HSP.out _ HB1.out
    obtain ⟨l2, hl2⟩ : ∃ l2, l1 ++ x = l2 := ⟨_, rfl⟩
    have hbnd : (l1).length + x.length ≤ 140737488351232 := by omega
    go_upto_region 8 with (at_builtin; refine appStr2 w.heap.size rfl (.tmp 18) (.tmp 22) rfl _ l1 x rfl rfl HO1.out HB1.out.size hbnd ?_; intro v2 w2 hown2 hgr2)
    have hb2 := Below.turn HB1.out hgr2 (fun g hg => OwnB.base HO1.out g hg)
    rw [hl2] at hown2
    obtain ⟨A2, cap2, hv2⟩ := hown2.slice
    subst hv2
    have HO3 := Lib.hid hown2
    have HB3 := Lib.hid hb2
    have HL2 := Lib.hid (show ((if 0 < m then l ++ [32] else l) ++ x) = l2 by rw [HIF.out, hl2])
    clear hown2 hb2 hgr2 hl2 hg q0
    by_cases hbig : 65536 < l2.length
    ·have hbi : (65536 : Int) < (l2.length : Int) := by omega
     have HR := Lib.hid (show Sx.text ts = ([], 2) by
      unfold Sx.text
      rw [← HE2.out, Sx.text_long (by rw [HL2.out]; exact hbig)])
     clear hbig
     go_wp2_with fail
     refine bodyPost_ret (results_tmp2 rfl _ _ _) rfl ?_
     rw [HR.out]
     exact ⟨rfl, HB3.out⟩
    ·have hbi : ¬ (65536 : Int) < (l2.length : Int) := by omega
     have HBG := Lib.hid hbig
     have HS := Lib.hid (show Sx.textFrom (m + 1) l2 (ts.drop (m + 1)) = Sx.textFrom 0 [] ts by rw [← HE2.out, Sx.text_step (by rw [HL2.out]; exact hbig), HL2.out])
     clear hbig
     go_wp2_with fail
     go_roundg (k - (m + 1))
     case measure => have := HN.out; omega
     case rel => exact ⟨m + 1, l2, rfl, by simp, hlt, HB3.out, HO3.out, by have := HBG.out; omega, HS.out⟩
   ·have hm0i : ¬ (0 : Int) < (m : Int) := by omega
    have HIF := Lib.hid (show (if 0 < m then l ++ [32] else l) = l by rw [if_neg hm0])
    obtain ⟨hg, q0⟩ := HSP.out _ HB.out
    obtain ⟨l2, hl2⟩ : ∃ l2, l ++ x = l2 := ⟨_, rfl⟩
    have hbnd : l.length + x.length ≤ 140737488351232 := by omega
    go_upto_region 8 with (at_builtin; refine appStr2 w.heap.size rfl (.tmp 18) (.tmp 22) rfl _ l x rfl rfl HO.out HB.out.size hbnd ?_; intro v2 w2 hown2 hgr2)
    have hb2 := Below.turn HB.out hgr2 (fun g hg => OwnB.base HO.out g hg)
    rw [hl2] at hown2
    obtain ⟨A2, cap2, hv2⟩ := hown2.slice
    subst hv2
    have HO3 := Lib.hid hown2
    have HB3 := Lib.hid hb2
    have HL2 := Lib.hid (show ((if 0 < m then l ++ [32] else l) ++ x) = l2 by rw [HIF.out, hl2])
    clear hown2 hb2 hgr2 hl2 hg q0
    by_cases hbig : 65536 < l2.length
    ·have hbi : (65536 : Int) < (l2.length : Int) := by omega
     have HR := Lib.hid (show Sx.text ts = ([], 2) by
      unfold Sx.text
      rw [← HE2.out, Sx.text_long (by rw [HL2.out]; exact hbig)])
     clear hbig
     go_wp2_with fail
     refine bodyPost_ret (results_tmp2 rfl _ _ _) rfl ?_
     rw [HR.out]
     exact ⟨rfl, HB3.out⟩
    ·have hbi : ¬ (65536 : Int) < (l2.length : Int) := by omega
     have HBG := Lib.hid hbig
     have HS := Lib.hid (show Sx.textFrom (m + 1) l2 (ts.drop (m + 1)) = Sx.textFrom 0 [] ts by rw [← HE2.out, Sx.text_step (by rw [HL2.out]; exact hbig), HL2.out])
     clear hbig
     go_wp2_with fail
     go_roundg (k - (m + 1))
     case measure => have := HN.out; omega
     case rel => exact ⟨m + 1, l2, rfl, by simp, hlt, HB3.out, HO3.out, by have := HBG.out; omega, HS.out⟩
  ·have hmi : ¬ (m : Int) < (k : Int) := by omega
   have HR := Lib.hid (show Sx.text ts = if 4096 < k then ([], 3) else (l, 0) by
    unfold Sx.text
    rw [← HE.out, List.drop_eq_nil_of_le (by have := HK.out; omega), Sx.textFrom, HK.out])
   by_cases hmany : 4096 < k
   ·have hmi2 : (4096 : Int) < (k : Int) := by omega
    rw [if_pos hmany] at HR
    clear hmany
    go_wp2_with fail
    refine bodyPost_ret (results_tmp2 rfl _ _ _) rfl ?_
    rw [HR.out]
    exact ⟨rfl, HB.out⟩
   ·have hmi2 : ¬ (4096 : Int) < (k : Int) := by omega
    rw [if_neg hmany] at HR
    clear hmany
    have hcv : (convert 98 9 (.slice A0 l.length cap0)).run Tryz.prog wr = .ok (.string ⟨l.toArray⟩) wr := strByte HO.out
    go_wp2_with fail
    refine bodyPost_ret (results_tmp2 rfl _ _ _) rfl ?_
    rw [HR.out]
    exact ⟨rfl, HB.out⟩
end Go.Proofs.YtdncljdfmdgdaaaGreatDoor
namespace Go.Proofs.YtdncljdfmdgdaaaGreatDoor
open Go.RowKit Go.Shelf
set_option linter.unusedSimpArgs false
set_option linter.unusedVariables false
theorem Sx.said_eq {ts : List Lx.Bytes} (h : Sx.Tks ts) : Sx.said true ts = Sx.text ts := by
 unfold Sx.said
 rw [if_pos rfl]
 exact Sx.told_text fun s hs => (h s hs).ne
set_option maxRecDepth 100000 in
set_option maxHeartbeats 4000000 in
theorem lawFits (right : Bool) (ts : List Lx.Bytes) (A : Option Addr) (n c : Nat) (W : World)
  (hv : right = true → StrRow W (.slice A n c) ts ∧ ts.length ≤ 1000000000 ∧ Sx.Lks ts ∧ Sx.Tks ts) :
  Calls Tryz.prog 29 #[.string ⟨(Sx.said right ts).1.toArray⟩, .int .i64 ((Sx.said right ts).2 : Nat), .bool right, .slice A n c] W fun e W' => e = .returned (.bool true) ∧ Below W.heap.size W W' := by
 cases right with
 | false =>
  have HW := Lib.hid (show Below W.heap.size W W from Below.refl _ _)
  rw [show Sx.said false ts = ([], 1) from rfl]
  clear hv
  go_enter Tryz.func29, Tryz.ntmps29
  go_wp2_with fail
  go_ret
  exact ⟨rfl, HW.out⟩
 | true =>
  obtain ⟨h1, h2, h3, h4⟩ := hv rfl
  rw [Sx.said_eq h4]
  have HT := Lib.hid (fun X (hX : Below W.heap.size W X) => (refText ts (.slice A n c) X (h1.below hX) h2 (fun t ht => by have := h3 t ht; unfold Sx.Lk at this; omega)).mono fun e w' h => (show e = .returned (.tuple #[.string ⟨(Sx.text ts).1.toArray⟩, .int .i64 ((Sx.text ts).2 : Nat)]) ∧ Below W.heap.size W w' from ⟨h.1, hX.trans (h.2.mono hX.size)⟩))
  obtain ⟨b, hb⟩ : ∃ b, (⟨(Sx.text ts).1.toArray⟩ : ByteArray) = b := ⟨_, rfl⟩
  obtain ⟨m, hm⟩ : ∃ m : Int, (((Sx.text ts).2 : Nat) : Int) = m := ⟨_, rfl⟩
  rw [hb, hm] at HT
  rw [hb, hm]
  have HW := Lib.hid (show Below W.heap.size W W from Below.refl _ _)
  clear hv h1 h2 h3 h4 hb hm
  go_enter Tryz.func29, Tryz.ntmps29
  go_wp2_with (go_at_call 70; refine (HT.out _ HW.out).mono ?_; rintro e w3 ⟨rfl, hb3⟩; have HB3 := Lib.hid hb3; clear hb3)
  go_ret
  exact ⟨rfl, HB3.out⟩
end Go.Proofs.YtdncljdfmdgdaaaGreatDoor
namespace Go.Proofs.YtdncljdfmdgdaaaGreatDoor
open Go.RowKit
section
variable {P : Program} {ops : Array Oper} {Q : Exit → Act → World → Prop} {md : Region.Mode}
def Waited (md : Region.Mode) (o : Oper) (listed : Array Bool) : Prop := (o.after.all fun e => !Region.binds md e || listed.getD e.on false) = true
def backward (ops : Array Oper) : Bool := (List.range ops.size).all fun i => ((ops[i]?).map (·.after.all fun e => e.on < i)).getD true
theorem zdqZ {listed : Array Bool} {i : Nat} (hs : listed.size = ops.size) : i ∈ Region.ready md ops listed ↔ ∃ o, ops[i]? = some o ∧ listed[i]? = some false ∧ Waited md o listed := by
 unfold Region.ready Waited
 simp only [List.mem_filter, List.mem_range, Bool.and_eq_true, Bool.not_eq_true']
 constructor
 ·rintro ⟨h1, h2, h3⟩
  obtain ⟨o, ho⟩ : ∃ o, ops[i]? = some o := ⟨_, Array.getElem?_eq_getElem h1⟩
  refine ⟨o, ho, ?_, ?_⟩
  ·have hl : i < listed.size := by omega
   rw [Array.getElem?_eq_getElem hl]
   simp only [Array.getD, hl, dif_pos] at h2
   exact congrArg some h2
  ·rw [ho] at h3
   simpa using h3
 ·rintro ⟨o, ho, h2, h3⟩
  have h1 : i < ops.size := (Array.getElem?_eq_some_iff.1 ho).1
  refine ⟨h1, ?_, ?_⟩
  ·obtain ⟨hl, e⟩ := Array.getElem?_eq_some_iff.1 h2
   simp only [Array.getD, hl, dif_pos]
   exact e
  ·rw [ho]
   simpa using h3
theorem zkdZ {listed : Array Bool} (hb : backward ops = true) (hs : listed.size = ops.size) (h : Region.ready md ops listed = []) : ∀ n i, i < n → i < ops.size → listed[i]? = some true := by
 intro n
 induction n with
 | zero => intro i hi; omega
 | succ n ih =>
  intro i hi hl
  by_cases hin : i < n
  ·exact ih i hin hl
  ·obtain rfl : i = n := by omega
   have hli : i < listed.size := by omega
   cases hc : listed[i]'hli with
   | true => rw [Array.getElem?_eq_getElem hli, hc]
   | false =>
    obtain ⟨o, ho⟩ : ∃ o, ops[i]? = some o := ⟨_, Array.getElem?_eq_getElem hl⟩
    have hmem : i ∈ Region.ready md ops listed := by
     rw [zdqZ hs]
     refine ⟨o, ho, by rw [Array.getElem?_eq_getElem hli, hc], ?_⟩
     unfold Waited
     rw [Array.all_eq_true']
     intro e he
     have hlt : e.on < i := by
      unfold backward at hb
      rw [List.all_eq_true] at hb
      have := hb i (List.mem_range.2 hl)
      rw [ho] at this
      simp only [Option.map_some, Option.getD_some] at this
      rw [Array.all_eq_true'] at this
      simpa using this e he
     have := ih e.on (by omega) (by omega)
     rw [Bool.or_eq_true]
     right
     obtain ⟨h1, h2⟩ := Array.getElem?_eq_some_iff.1 this
     simp only [Array.getD, h1, dif_pos]
     exact h2
    rw [h] at hmem
    cases hmem
def undone (l : Array Bool) : Nat := l.toList.countP (· == false)
theorem ziwZ {l : Array Bool} {i : Nat} (h : l[i]? = some false) : undone (l.setIfInBounds i true) + 1 = undone l := by
 unfold undone
 obtain ⟨hi, he⟩ := Array.getElem?_eq_some_iff.1 h
 have hp : 0 < l.toList.countP (· == false) := List.countP_pos_iff.2 ⟨false, by rw [← he]; exact Array.getElem_mem_toList hi, rfl⟩
 rw [Array.toList_setIfInBounds, List.countP_set (by simpa using hi)]
 simp only [Array.getElem_toList, he, beq_self_eq_true, if_true, show (true == false) = false from rfl, Bool.false_eq_true, if_false]
 omega
theorem zffZ {l : Array Bool} (h : ∀ i, i < l.size → l[i]? = some true) : l = Array.replicate l.size true := by
 apply Array.ext (by simp)
 intro i h1 h2
 have := h i h1
 rw [Array.getElem?_eq_getElem h1] at this
 injection this with this
 rw [this]
 simp
theorem zicZ (J : Array Bool → Act → World → Prop) (hb : backward ops = true)
  (hstep : ∀ (i : Nat) (o : Oper), ops[i]? = some o → ∀ (listed : Array Bool) (a : Act) (w : World), listed[i]? = some false → Waited md o listed → J listed a w →
   wpOp P ops Q i (J (listed.setIfInBounds i true)) a w)
  (hdone : ∀ a w, J (Array.replicate ops.size true) a w → Q .normal a w) :
  ∀ (fuel : Nat) (listed : Array Bool) (a : Act) (w : World), listed.size = ops.size → undone listed ≤ fuel → J listed a w → wpAny P md ops Q fuel listed a w := by
 intro fuel
 induction fuel with
 | zero =>
  intro listed a w hs hu hJ
  have hall : ∀ i, i < listed.size → listed[i]? = some true := by
   intro i hi
   cases hc : listed[i]'hi with
   | true => rw [Array.getElem?_eq_getElem hi, hc]
   | false =>
    exfalso
    have : 0 < undone listed := List.countP_pos_iff.2 ⟨false, by rw [← hc]; exact Array.getElem_mem_toList hi, rfl⟩
    omega
  refine ⟨?_, hdone a w (by rw [← hs, ← zffZ hall]; exact hJ)⟩
  rw [List.eq_nil_iff_forall_not_mem]
  intro i hi
  obtain ⟨o, ho, hf, -⟩ := (zdqZ hs).1 hi
  obtain ⟨hl, -⟩ := Array.getElem?_eq_some_iff.1 hf
  rw [hall i hl] at hf
  cases hf
 | succ fuel ih =>
  intro listed a w hs hu hJ
  refine ⟨fun h => ?_, fun i hi => ?_⟩
  ·refine hdone a w ?_
   rw [← hs, ← zffZ fun i hi => zkdZ hb hs h (i + 1) i (by omega) (by omega)]
   exact hJ
  ·obtain ⟨o, ho, hf, hw⟩ := (zdqZ hs).1 hi
   refine wpOp_mono (fun a' w' h => ih _ a' w' (by simpa using hs) ?_ h) (hstep i o ho listed a w hf hw hJ)
   have := ziwZ hf
   omega
def Each (P : Program) (ops : Array Oper) (md : Region.Mode) (Q : Exit → Act → World → Prop) (J : Array Bool → Act → World → Prop) (k : Nat) (l : List Oper) : Prop :=
 ∀ (j : Nat) (o : Oper), l[j]? = some o → ∀ (listed : Array Bool) (a : Act) (w : World), listed[k + j]? = some false → Waited md o listed → J listed a w →
  ∀ K : Act → World → Prop, Hid (∀ a w, J (listed.setIfInBounds (k + j) true) a w → K a w) → if Region.wanted o (yielded ops a.tmps) = true then Oper.wp P o a w K Q else K (a.put o.dst undef) w
theorem Each.nil {J : Array Bool → Act → World → Prop} {k : Nat} : Each P ops md Q J k [] := fun j o h => by simp at h
theorem Each.cons {J : Array Bool → Act → World → Prop} {k : Nat} {o : Oper} {l : List Oper}
  (h : ∀ (listed : Array Bool) (a : Act) (w : World), listed[k]? = some false → Waited md o listed → J listed a w →
   ∀ K : Act → World → Prop, Hid (∀ a w, J (listed.setIfInBounds k true) a w → K a w) → if Region.wanted o (yielded ops a.tmps) = true then Oper.wp P o a w K Q else K (a.put o.dst undef) w)
  (hl : Each P ops md Q J (k + 1) l) : Each P ops md Q J k (o :: l) := by
 intro j o' hj
 cases j with
 | zero =>
  simp only [List.getElem?_cons_zero, Option.some.injEq] at hj
  subst hj
  exact h
 | succ j =>
  simp only [List.getElem?_cons_succ] at hj
  have := hl j o' hj
  rw [show k + 1 + j = k + (j + 1) by omega] at this
  exact this
theorem zfgZ {id : Nat} {a : Act} {w : World} (J : Act → Array Bool → Act → World → Prop) (hm : P.follows .mixedOrders = true) (hb : backward ops = true)
  (h0 : J a (Array.replicate ops.size false) a w.drew) (hstep : Each P ops .any Q (J a) 0 ops.toList) (hdone : ∀ a' w', J a (Array.replicate ops.size true) a' w' → Q .normal a' w') :
  (Code.region id ops true).wp P Q a w := by
 refine wp_region_any hm (zicZ (J a) hb ?_ hdone ops.size _ a w.drew (by simp) ?_ h0)
 ·intro i o ho listed a' w' hf hw hJ
  refine wpOp_step ho fun K hK => ?_
  have := hstep i o (by rw [Array.getElem?_toList]; exact ho) listed a' w' (by rw [Nat.zero_add]; exact hf) hw hJ K (by rw [Nat.zero_add]; exact hK)
  exact this
 ·unfold undone
  have := List.countP_le_length (l := (Array.replicate ops.size false).toList) (p := (· == false))
  simpa using this
end
end Go.Proofs.YtdncljdfmdgdaaaGreatDoor
namespace Go.Proofs.YtdncljdfmdgdaaaGreatDoor
open Go.RowKit
def fillAct (u : Nat → Value) : List Oper → Nat → Act → Act
 | [], _, a => a
 | o :: l, k, a => fillAct u l (k + 1) (a.put o.dst (u k))
def upd (u : Nat → Value) (i : Nat) (x : Value) : Nat → Value := fun j => if j = i then x else u j
def slots (l : List Oper) : List Tmp := l.filterMap (·.dst)
def slotAt (l : List Oper) (i : Nat) : Option Tmp := (l[i]?).bind (·.dst)
theorem zddZ {u v : Nat → Value} : ∀ (l : List Oper) (k : Nat) (a : Act), (∀ j, k ≤ j → u j = v j) → fillAct u l k a = fillAct v l k a
 | [], k, a, h => rfl
 | o :: l, k, a, h => by
  rw [fillAct, fillAct, h k (Nat.le_refl _)]
  exact zddZ l (k + 1) _ fun j hj => h j (by omega)
theorem put_put (a : Act) (d : Option Tmp) (x y : Value) : (a.put d x).put d y = a.put d y := by
 cases d with
 | none => rfl
 | some d => simp [Act.put]
theorem zcaZ {u : Nat → Value} (d : Option Tmp) (x : Value) : ∀ (l : List Oper) (k : Nat) (a : Act), (∀ t, d = some t → t ∉ slots l) → (fillAct u l k a).put d x = fillAct u l k (a.put d x)
 | [], k, a, h => rfl
 | o :: l, k, a, h => by
  rw [fillAct, fillAct, zcaZ d x l (k + 1) _ (fun t ht hm => h t ht ?_), Act.put_comm a _ _ ?_]
  ·intro t ht he
   exact h t he (by unfold slots; rw [List.filterMap_cons, ht]; exact List.mem_cons_self)
  ·unfold slots at hm ⊢
   rw [List.filterMap_cons]
   split
   ·exact hm
   ·exact List.mem_cons_of_mem _ hm
theorem zwZ {o : Oper} {l : List Oper} (h : (slots (o :: l)).Nodup) : (slots l).Nodup ∧ ∀ t, o.dst = some t → t ∉ slots l := by
 unfold slots at h ⊢
 rw [List.filterMap_cons] at h
 cases hd : o.dst with
 | none => rw [hd] at h; exact ⟨h, fun t ht => by cases ht⟩
 | some d =>
  rw [hd] at h
  obtain ⟨h1, h2⟩ := List.nodup_cons.1 h
  exact ⟨h2, fun t ht => by injection ht with ht; subst ht; exact h1⟩
theorem zegZ {u : Nat → Value} (x : Value) : ∀ (l : List Oper) (k i : Nat) (a : Act) (o : Oper), (slots l).Nodup → l[i]? = some o → (fillAct u l k a).put o.dst x = fillAct (upd u (k + i) x) l k a
 | [], k, i, a, o, hn, h => by simp at h
 | o' :: l, k, 0, a, o, hn, h => by
  simp only [List.getElem?_cons_zero, Option.some.injEq] at h
  subst h
  rw [fillAct, fillAct, zcaZ _ x l (k + 1) _ (zwZ hn).2, put_put]
  rw [show upd u (k + 0) x k = x by simp [upd]]
  exact zddZ l (k + 1) _ fun j hj => by simp only [upd]; rw [if_neg (by omega)]
 | o' :: l, k, i + 1, a, o, hn, h => by
  simp only [List.getElem?_cons_succ] at h
  rw [fillAct, fillAct, zegZ x l (k + 1) i _ o (zwZ hn).1 h, show k + 1 + i = k + (i + 1) by omega]
  rw [show upd u (k + (i + 1)) x k = u k by simp only [upd]; rw [if_neg (by omega)]]
theorem zmwZ (a : Act) (d : Tmp) : a.put (some d) (a.eval (.tmp d)) = a := by
 cases a with
 | mk t ds =>
  simp only [Act.put, Act.eval]
  congr 1
  apply Array.ext (by simp)
  intro i h1 h2
  rw [Array.getElem_setIfInBounds]
  ·split
   ·rename_i he
    subst he
    simp [h2]
   ·rfl
theorem zdrZ {u : Nat → Value} (a : Act) : ∀ (l : List Oper) (k : Nat), (∀ i d, slotAt l i = some d → u (k + i) = a.eval (.tmp d)) → fillAct u l k a = a
 | [], k, h => rfl
 | o :: l, k, h => by
  have h0 : a.put o.dst (u k) = a := by
   cases hd : o.dst with
   | none => rfl
   | some d => rw [show u k = a.eval (.tmp d) from h 0 d (by simp [slotAt, hd])]; exact zmwZ a d
  rw [fillAct, h0]
  exact zdrZ a l (k + 1) fun i d hd => by
   have := h (i + 1) d (by simpa [slotAt] using hd)
   rw [show k + 1 + i = k + (i + 1) by omega]
   exact this
theorem zmxZ (a : Act) (d : Option Tmp) (x : Value) : (a.put d x).tmps.size = a.tmps.size := by
 cases d <;> simp [Act.put]
theorem zbzZ {u : Nat → Value} : ∀ (l : List Oper) (k : Nat) (a : Act) (d : Tmp), d ∉ slots l → (fillAct u l k a).eval (.tmp d) = a.eval (.tmp d)
 | [], k, a, d, h => rfl
 | o :: l, k, a, d, h => by
  have h1 : d ∉ slots l := fun hm => h (by unfold slots at hm ⊢; rw [List.filterMap_cons]; split; exact hm; exact List.mem_cons_of_mem _ hm)
  rw [fillAct, zbzZ l (k + 1) _ d h1]
  refine Act.eval_put fun t ht he => ?_
  injection he with he
  subst he
  exact h (by unfold slots; rw [List.filterMap_cons, ht]; exact List.mem_cons_self)
theorem zdsZ {u : Nat → Value} : ∀ (l : List Oper) (k i : Nat) (a : Act) (d : Tmp), (slots l).Nodup → slotAt l i = some d → d < a.tmps.size → (fillAct u l k a).eval (.tmp d) = u (k + i)
 | [], k, i, a, d, hn, h, hs => by simp [slotAt] at h
 | o :: l, k, 0, a, d, hn, h, hs => by
  have hd : o.dst = some d := by simpa [slotAt] using h
  rw [fillAct, zbzZ l (k + 1) _ d ((zwZ hn).2 d hd), hd]
  simp [Act.put, Act.eval, hs]
 | o :: l, k, i + 1, a, d, hn, h, hs => by
  rw [fillAct, zdsZ l (k + 1) i _ d (zwZ hn).1 (by simpa [slotAt] using h) (by rw [zmxZ]; exact hs), show k + 1 + i = k + (i + 1) by omega]
section
variable {P : Program} {ops : Array Oper} {Q : Exit → Act → World → Prop}
def edge (ops : List Oper) (i j : Nat) : Bool := ((ops[i]?).map fun o => o.after.any fun e => Region.binds .any e && e.on == j).getD false
def nextK (apps : List Nat) (i k : Nat) : Nat := if apps.contains i then k + 1 else k
def slotsIn (ops : List Oper) (n : Nat) : Bool := ops.all fun o => match o.dst with | some d => decide (d < n) | none => true
def slotsOk (ops : List Oper) : Bool := decide (slots ops).Nodup
def appsOk (apps : List Nat) (n : Nat) : Bool := decide apps.Nodup && apps.all (· < n)
def chained (ops : List Oper) : List Nat → Bool
 | i :: j :: l => edge ops j i && chained ops (j :: l)
 | _ => true
theorem zdtZ {ops : List Oper} : ∀ (l : List Nat) (e i j : Nat), chained ops l = true → l[e]? = some i → l[e + 1]? = some j → edge ops j i = true
 | [], e, i, j, h, h1, h2 => by simp at h1
 | [x], e, i, j, h, h1, h2 => by simp at h2
 | x :: y :: l, 0, i, j, h, h1, h2 => by
  simp at h1 h2
  subst h1 h2
  rw [chained, Bool.and_eq_true] at h
  exact h.1
 | x :: y :: l, e + 1, i, j, h, h1, h2 => by
  rw [chained, Bool.and_eq_true] at h
  exact zdtZ (y :: l) e i j h.2 (by simpa using h1) (by simpa using h2)
theorem zkeZ {l : List Nat} (h : l.Nodup) : ∀ {i j : Nat} (hi : i < l.length) (hj : j < l.length), l[i] = l[j] → i = j := by
 induction l with
 | nil => intro i j hi; simp at hi
 | cons x l ih =>
  obtain ⟨h1, h2⟩ := List.nodup_cons.1 h
  intro i j hi hj e
  cases i with
  | zero =>
   cases j with
   | zero => rfl
   | succ j => exact absurd (by simp at e; rw [e]; exact List.getElem_mem _) h1
  | succ i =>
   cases j with
   | zero => exact absurd (by simp at e; rw [← e]; exact List.getElem_mem _) h1
   | succ j => exact congrArg (· + 1) (ih h2 (by simpa using hi) (by simpa using hj) (by simpa using e))
def upon2 (P : Program) (K : Value → World → Prop) : Result Next → Prop
 | .ok (.value v) w' => K v w'
 | .ok .skip w' => K undef w'
 | .ok (.enter f args) w' => Calls P f args w' fun e w'' => ∃ v, e = .returned v ∧ K v w''
 | _ => False
theorem zbsZ (K : Value → World → Prop) (v : Value) (w : World) : upon2 P K (.ok (.value v) w) = K v w := rfl
theorem zccZ (K : Value → World → Prop) (w : World) : upon2 P K (.ok .skip w) = K undef w := rfl
theorem zbtZ (K : Value → World → Prop) (f : FuncId) (args : Array Value) (w : World) : upon2 P K (.ok (.enter f args) w) = Calls P f args w fun e w'' => ∃ v, e = .returned v ∧ K v w'' := rfl
def opWp (P : Program) (o : Oper) (ρ : Operand → Value) (w : World) (K : Value → World → Prop) : Prop := upon2 P K ((execOp ρ o).run P w)
theorem zfhZ {o : Oper} {A : Act} {w : World} {K : Act → World → Prop} (h : opWp P o A.eval w fun v w' => K (A.put o.dst v) w') : o.wp P A w K Q := by
 unfold Oper.wp
 unfold opWp at h
 generalize (execOp A.eval o).run P w = r at *
 cases r with
 | ok n w' =>
  cases n <;> simp only [Oper.upon, upon2] at h ⊢
  case value => exact h
  case skip => exact h
  case enter => exact Calls.mono h fun e w'' he => by obtain ⟨v, rfl, he⟩ := he; exact he
 | halt x w' => exact absurd h (by simp [upon2])
def guarded (ops : List Oper) (u : Nat → Value) (o : Oper) (K : Value → World → Prop) (w : World) (X : Prop) : Prop :=
 match o.guard with
 | none => X
 | some (g, b) => (slotAt ops g).isSome = true ∧ (u g = .bool b → X) ∧ (u g ≠ .bool b → K undef w)
def OpOk (P : Program) (Q : Exit → Act → World → Prop) (ops : Array Oper) (a : Act) (apps : List Nat) (I : Nat → World → Value → Prop) (M : World → Value → Nat → World → Value → Nat → Prop)
  (F : Nat → Value → World → Value → Nat → Prop) (i : Nat) (o : Oper) : Prop :=
 ∀ (ρ : Operand → Value) (u : Nat → Value) (L : Nat → Prop) (w : World) (r : Value) (k : Nat),
  (∀ d j, slotAt ops.toList j = some d → ρ (.tmp d) = u j) →
  (∀ d, (slots ops.toList).contains d = false → ρ (.tmp d) = a.eval (.tmp d)) → (∀ v, ρ (.const v) = v) → (∀ g, ρ (.global g) = .pointer (some ⟨g, 0, none⟩)) → (∀ f, ρ (.func f) = .func (.func f) #[] #[]) →
  (∀ j, edge ops.toList i j = true → L j) → (∀ j j', edge ops.toList j j' = true → L j → L j') → ¬ L i →
  (∀ j, L j → F j (u j) w r k) → (∀ d j, slotAt ops.toList j = some d → ¬ L j → u j = a.eval (.tmp d)) →
  (∀ j e, apps[e]? = some j → (L j ↔ e < k)) → I k w r →
  ∀ K : Value → World → Prop, Hid (∀ x w' r', M w r k w' r' (nextK apps i k) → I (nextK apps i k) w' r' → F i x w' r' (nextK apps i k) → K x w') →
   guarded ops.toList u o K w (opWp P o ρ w K)
def OpsOk (P : Program) (Q : Exit → Act → World → Prop) (ops : Array Oper) (a : Act) (apps : List Nat) (I : Nat → World → Value → Prop) (M : World → Value → Nat → World → Value → Nat → Prop)
  (F : Nat → Value → World → Value → Nat → Prop) (k : Nat) (l : List Oper) : Prop := ∀ j o, l[j]? = some o → OpOk P Q ops a apps I M F (k + j) o
theorem OpsOk.nil {a : Act} {apps : List Nat} {I : Nat → World → Value → Prop} {M : World → Value → Nat → World → Value → Nat → Prop} {F : Nat → Value → World → Value → Nat → Prop} {k : Nat} : OpsOk P Q ops a apps I M F k [] := fun j o h => by simp at h
theorem OpsOk.cons {a : Act} {apps : List Nat} {I : Nat → World → Value → Prop} {M : World → Value → Nat → World → Value → Nat → Prop} {F : Nat → Value → World → Value → Nat → Prop} {k : Nat} {o : Oper} {l : List Oper}
  (h : OpOk P Q ops a apps I M F k o) (hl : OpsOk P Q ops a apps I M F (k + 1) l) : OpsOk P Q ops a apps I M F k (o :: l) := by
 intro j o' hj
 cases j with
 | zero =>
  simp only [List.getElem?_cons_zero, Option.some.injEq] at hj
  subst hj
  exact h
 | succ j =>
  simp only [List.getElem?_cons_succ] at hj
  have := hl j o' hj
  rw [show k + 1 + j = k + (j + 1) by omega] at this
  exact this
def Stays (M : World → Value → Nat → World → Value → Nat → Prop) (f : Value → World → Value → Nat → Prop) : Prop := ∀ x w r k w' r' k', M w r k w' r' k' → f x w r k → f x w' r' k'
def AllStay (M : World → Value → Nat → World → Value → Nat → Prop) (Fs : List (Value → World → Value → Nat → Prop)) : Prop := ∀ f ∈ Fs, Stays M f
theorem AllStay.nil {M : World → Value → Nat → World → Value → Nat → Prop} : AllStay M [] := fun f h => by cases h
theorem AllStay.cons {M : World → Value → Nat → World → Value → Nat → Prop} {f : Value → World → Value → Nat → Prop} {Fs : List (Value → World → Value → Nat → Prop)} (h : Stays M f) (hs : AllStay M Fs) : AllStay M (f :: Fs) := by
 intro g hg
 rcases List.mem_cons.1 hg with rfl | hg
 ·exact h
 ·exact hs g hg
def nth (Fs : List (Value → World → Value → Nat → Prop)) (j : Nat) : Value → World → Value → Nat → Prop := Fs.getD j fun _ _ _ _ => True
def RJ (ops : Array Oper) (apps : List Nat) (I : Nat → World → Value → Prop) (F : Nat → Value → World → Value → Nat → Prop) : Act → Array Bool → Act → World → Prop :=
 fun a listed a' w' => ∃ (u : Nat → Value) (r : Value) (k : Nat), listed.size = ops.size ∧ k ≤ apps.length ∧ a' = fillAct u ops.toList 0 a ∧ I k w' r ∧
  (∀ j e : Nat, apps[e]? = some j → (listed[j]? = some true ↔ e < k)) ∧ (∀ j j', edge ops.toList j j' = true → listed[j]? = some true → listed[j']? = some true) ∧
  (∀ j, listed[j]? = some true → F j (u j) w' r k) ∧ (∀ d j, slotAt ops.toList j = some d → ¬ listed[j]? = some true → u j = a.eval (.tmp d))
theorem RJ_start {a : Act} {w : World} {apps : List Nat} {I : Nat → World → Value → Prop} {F : Nat → Value → World → Value → Nat → Prop} {R0 : Value} (h0 : I 0 w R0) : RJ ops apps I F a (Array.replicate ops.size false) a w := by
 refine ⟨fun j => match slotAt ops.toList j with | some d => a.eval (.tmp d) | none => undef, R0, 0, by simp, Nat.zero_le _, ?_, h0, ?_, ?_, ?_, ?_⟩
 ·refine (zdrZ a _ 0 fun i d hd => ?_).symm
  rw [Nat.zero_add]
  simp only [hd]
 ·intro j e he
  constructor
  ·intro h
   rw [Array.getElem?_replicate] at h
   split at h <;> simp at h
  ·intro h; omega
 ·intro j j' _ h
  rw [Array.getElem?_replicate] at h
  split at h <;> simp at h
 ·intro j h
  rw [Array.getElem?_replicate] at h
  split at h <;> simp at h
 ·intro d j hd _
  simp only [hd]
theorem RJ_step {a : Act} {apps : List Nat} {I : Nat → World → Value → Prop} {M : World → Value → Nat → World → Value → Nat → Prop}
  {Fs : List (Value → World → Value → Nat → Prop)} (hb : backward ops = true) (hs : slotsOk ops.toList = true) (hr : slotsIn ops.toList a.tmps.size = true) (ha : appsOk apps ops.size = true) (hch : chained ops.toList apps = true)
  (hF : AllStay M Fs) (hstep : OpsOk P Q ops a apps I M (nth Fs) 0 ops.toList) : Each P ops .any Q (RJ ops apps I (nth Fs) a) 0 ops.toList := by
 have hnd : (slots ops.toList).Nodup := by simpa [slotsOk] using hs
 have hrange : ∀ i d, slotAt ops.toList i = some d → d < a.tmps.size := by
  intro i d hd
  unfold slotsIn at hr
  rw [List.all_eq_true] at hr
  unfold slotAt at hd
  obtain ⟨o, ho, hod⟩ := Option.bind_eq_some_iff.1 hd
  have := hr o (List.mem_of_getElem? ho)
  rw [hod] at this
  simpa using this
 obtain ⟨hapn, hapr⟩ : apps.Nodup ∧ ∀ j ∈ apps, j < ops.size := by
  simpa [appsOk] using ha
 have happ1 : ∀ e e' j : Nat, apps[e]? = some j → apps[e']? = some j → e = e' := by
  intro e e' j h1 h2
  obtain ⟨l1, g1⟩ := List.getElem?_eq_some_iff.1 h1
  obtain ⟨l2, g2⟩ := List.getElem?_eq_some_iff.1 h2
  exact zkeZ hapn l1 l2 (g1.trans g2.symm)
 have hstay : ∀ j, Stays M (nth Fs j) := by
  intro j
  unfold nth
  rw [List.getD_eq_getElem?_getD]
  cases hj : Fs[j]? with
  | none => exact fun _ _ _ _ _ _ _ _ _ => trivial
  | some f => exact hF f (List.mem_of_getElem? hj)
 intro i o ho listed A w' hf hw hJ K hK
 obtain ⟨u, r, k, hsz, hk, hA, hI, hap, hcl, hfc, hun⟩ := hJ
 rw [Nat.zero_add] at hf
 rw [Nat.zero_add] at hK
 have hi : i < ops.size := by rw [← hsz]; exact (Array.getElem?_eq_some_iff.1 hf).1
 have hset : ∀ j : Nat, (listed.setIfInBounds i true)[j]? = some true ↔ (j = i ∨ listed[j]? = some true) := by
  intro j
  by_cases hji : j = i
  ·subst hji
   simp [hsz, hi]
  ·rw [Array.getElem?_setIfInBounds_ne (Ne.symm hji)]
   simp [hji]
 have hedge : ∀ j, edge ops.toList i j = true → listed[j]? = some true := by
  intro j hj
  unfold edge at hj
  rw [ho] at hj
  simp only [Option.map_some, Option.getD_some, Array.any_eq_true', Bool.and_eq_true, beq_iff_eq] at hj
  obtain ⟨e, he, hbnd, rfl⟩ := hj
  unfold Waited at hw
  rw [Array.all_eq_true'] at hw
  have := hw e he
  rw [hbnd] at this
  simp only [Bool.not_true, Bool.false_or] at this
  cases hx : listed[e.on]? with
  | none => simp [Array.getD_eq_getD_getElem?, hx] at this
  | some b => simp [Array.getD_eq_getD_getElem?, hx] at this; rw [this]
 have hni : ¬ listed[i]? = some true := by rw [hf]; simp
 have hslot : ∀ d j, slotAt ops.toList j = some d → A.eval (.tmp d) = u j := fun d j hd => by
  rw [hA]
  have := zdsZ (u := u) ops.toList 0 j a d hnd hd (hrange j d hd)
  rw [Nat.zero_add] at this
  exact this
 have hok := hstep i o ho A.eval u (fun j => listed[j]? = some true) w' r k hslot (fun d hd => by rw [hA]; exact zbzZ ops.toList 0 a d (by simpa using hd)) (fun _ => rfl) (fun _ => rfl) (fun _ => rfl)
  (by rw [Nat.zero_add]; exact hedge) hcl (by rw [Nat.zero_add]; exact hni) hfc hun hap hI (fun v w'' => K (A.put o.dst v) w'')
 rw [Nat.zero_add] at hok
 suffices hK2 : ∀ x w'' r', M w' r k w'' r' (nextK apps i k) → I (nextK apps i k) w'' r' → nth Fs i x w'' r' (nextK apps i k) → K (A.put o.dst x) w'' by
  have := hok (Lib.hid hK2)
  unfold guarded at this
  cases hg : o.guard with
  | none =>
   rw [hg] at this
   rw [if_pos (by unfold Region.wanted; rw [hg])]
   exact zfhZ this
  | some gb =>
   obtain ⟨g, b⟩ := gb
   rw [hg] at this
   obtain ⟨hsome, h1, h2⟩ := this
   obtain ⟨d, hd⟩ := Option.isSome_iff_exists.1 hsome
   have hev := hslot d g hd
   have hd2 : (ops[g]?).bind (·.dst) = some d := by
    unfold slotAt at hd
    rw [Array.getElem?_toList] at hd
    exact hd
   by_cases hcb : u g = .bool b
   ·rw [hcb] at hev
    have hlt : d < A.tmps.size := by
     rcases Nat.lt_or_ge d A.tmps.size with h | h
     ·exact h
     ·simp [Act.eval, undef, Nat.not_lt.2 h] at hev
    have hy : yielded ops A.tmps g = some b := by
     unfold yielded
     rw [hd2]
     simp only [Option.bind_some]
     simp only [Act.eval, Array.getD, dif_pos hlt] at hev
     rw [Array.getElem?_eq_getElem hlt]
     rw [show A.tmps[d] = .bool b from hev]
    have hwt : Region.wanted o (yielded ops A.tmps) = true := by
     unfold Region.wanted
     rw [hg]
     simp only [hy]
     simp
    rw [if_pos hwt]
    exact zfhZ (h1 hcb)
   ·have hwt : ¬ Region.wanted o (yielded ops A.tmps) = true := by
     unfold Region.wanted
     rw [hg]
     intro hw
     simp only [beq_iff_eq] at hw
     unfold yielded at hw
     rw [hd2] at hw
     simp only [Option.bind_some] at hw
     cases ht : A.tmps[d]? with
     | none => rw [ht] at hw; cases hw
     | some x =>
      rw [ht] at hw
      have hlt := (Array.getElem?_eq_some_iff.1 ht).1
      have hx : u g = x := by
       rw [← hev]
       simp only [Act.eval, Array.getD, dif_pos hlt]
       rw [Array.getElem?_eq_getElem hlt] at ht
       exact Option.some.inj ht
      apply hcb
      rw [hx]
      cases x <;> simp at hw
      subst hw
      rfl
    rw [if_neg hwt]
    exact h2 hcb
 intro x w'' r' hM hI' hFi
 refine hK.out _ _ ?_
 have hkn : (apps.contains i = true ∧ ∃ e, apps[e]? = some i ∧ nextK apps i k = k + 1 ∧ e = k) ∨ (apps.contains i = false ∧ nextK apps i k = k) := by
  cases hc : apps.contains i with
  | false => right; exact ⟨rfl, by unfold nextK; rw [hc]; rfl⟩
  | true =>
   left
   refine ⟨rfl, ?_⟩
   have hmem : i ∈ apps := by simpa using hc
   obtain ⟨e, he⟩ := List.mem_iff_getElem?.1 hmem
   refine ⟨e, he, by unfold nextK; rw [hc]; rfl, ?_⟩
   have h1 : ¬ e < k := fun h => hni ((hap i e he).2 h)
   have h2 : ¬ k < e := by
    intro hlt
    obtain ⟨e, rfl⟩ : ∃ e', e = e' + 1 := ⟨e - 1, by omega⟩
    have hlen : e < apps.length := by have := (List.getElem?_eq_some_iff.1 he).1; omega
    have hpe := List.getElem?_eq_getElem hlen
    have := (hap _ e hpe).1 (hedge _ (zdtZ apps e _ i hch hpe he))
    omega
   omega
 refine ⟨upd u i x, r', nextK apps i k, by simpa using hsz, ?_, ?_, hI', ?_, ?_, ?_, ?_⟩
 ·rcases hkn with ⟨-, e, he, hk1, rfl⟩ | ⟨-, hk1⟩
  ·rw [hk1]; exact (List.getElem?_eq_some_iff.1 he).1
  ·rw [hk1]; exact hk
 ·rw [hA, zegZ x ops.toList 0 i a o hnd ho, Nat.zero_add]
 ·intro j e he
  rw [hset, hap j e he]
  rcases hkn with ⟨-, e', he', hk1, rfl⟩ | ⟨hc, hk1⟩
  ·rw [hk1]
   constructor
   ·rintro (rfl | h)
    ·rw [happ1 _ _ _ he he']; omega
    ·omega
   ·intro h
    by_cases hlt : e < e'
    ·exact .inr hlt
    ·obtain rfl : e = e' := by omega
     left
     rw [he] at he'
     injection he'
  ·rw [hk1]
   constructor
   ·rintro (rfl | h)
    ·exfalso
     have : apps.contains j = true := by simpa using List.mem_of_getElem? he
     rw [hc] at this
     cases this
    ·exact h
   ·exact .inr
 ·intro j j' he hj
  rw [hset] at hj ⊢
  rcases hj with rfl | hj
  ·exact .inr (hedge j' he)
  ·exact .inr (hcl j j' he hj)
 ·intro j hj
  rw [hset] at hj
  by_cases hji : j = i
  ·subst hji
   rw [show upd u j x j = x by simp [upd]]
   exact hFi
  ·rw [show upd u i x j = u j by simp [upd, hji]]
   exact hstay j _ _ _ _ _ _ _ hM (hfc j (by rcases hj with h | h; exact absurd h hji; exact h))
 ·intro d j hd hj
  rw [hset] at hj
  have hji : j ≠ i := fun h => hj (.inl h)
  rw [show upd u i x j = u j by simp [upd, hji]]
  exact hun d j hd fun h => hj (.inr h)
theorem RJ_done {a : Act} {apps : List Nat} {I : Nat → World → Value → Prop} {Fs : List (Value → World → Value → Nat → Prop)} (ha : appsOk apps ops.size = true) {n : Nat} (hn : ops.size = n)
  (hdone : ∀ (u : Nat → Value) (w' : World) (r : Value), I apps.length w' r → (∀ j, j < n → nth Fs j (u j) w' r apps.length) → Q .normal (fillAct u ops.toList 0 a) w') :
  ∀ a' w', RJ ops apps I (nth Fs) a (Array.replicate ops.size true) a' w' → Q .normal a' w' := by
 obtain ⟨hapn, hapr⟩ : apps.Nodup ∧ ∀ j ∈ apps, j < ops.size := by
  simpa [appsOk] using ha
 intro a' w' hJ
 obtain ⟨u, r, k, hsz, hk, rfl, hI, hap, hcl, hfc, hun⟩ := hJ
 have hall : ∀ j, j < ops.size → (Array.replicate ops.size true)[j]? = some true := fun j hj => by
  rw [Array.getElem?_replicate, if_pos hj]
 obtain rfl : k = apps.length := by
  cases Nat.lt_or_ge k apps.length with
  | inr h => omega
  | inl h =>
   have := (hap apps[k] k (List.getElem?_eq_getElem h)).1 (hall _ (hapr _ (List.getElem_mem h)))
   omega
 exact hdone u w' r hI fun j hj => hfc j (hall j (by rw [hn]; exact hj))
theorem zbaZ {id : Nat} {a : Act} {w : World} (hm : P.follows .mixedOrders = true) (apps : List Nat) (I : Nat → World → Value → Prop) (M : World → Value → Nat → World → Value → Nat → Prop)
  (Fs : List (Value → World → Value → Nat → Prop)) (R0 : Value) (hb : backward ops = true) (hs : slotsOk ops.toList = true) (hr : slotsIn ops.toList a.tmps.size = true) (ha : appsOk apps ops.size = true) (hch : chained ops.toList apps = true)
  (hF : AllStay M Fs) {n : Nat} (hn : ops.size = n) (h0 : I 0 w.drew R0) (hstep : OpsOk P Q ops a apps I M (nth Fs) 0 ops.toList)
  (hdone : ∀ (u : Nat → Value) (w' : World) (r : Value), I apps.length w' r → (∀ j, j < n → nth Fs j (u j) w' r apps.length) → Q .normal (fillAct u ops.toList 0 a) w') :
  (Code.region id ops true).wp P Q a w :=
 zfgZ (RJ ops apps I (nth Fs)) hm hb (RJ_start h0) (RJ_step hb hs hr ha hch hF hstep) (RJ_done ha hn hdone)
end
end Go.Proofs.YtdncljdfmdgdaaaGreatDoor
