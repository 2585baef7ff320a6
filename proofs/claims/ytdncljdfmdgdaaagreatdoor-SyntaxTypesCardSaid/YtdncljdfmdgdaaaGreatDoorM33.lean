/-
  The walk of syntax.Stmts.
-/
/-
 The walk of syntax.Stmts.
 The walk of coillaw2.SyntaxRuns.
 The laws of chapter 2, over SyntaxRuns' own.
 SyntaxTypes: the walk, closed.
-/
import Derived.Test.YtdncljdfmdgdaaaGreatDoorM32
import Derived.Test.YtdncljdfmdgdaaaGreatDoorM30
import Derived.Test.YtdncljdfmdgdaaaGreatDoorM14
import Derived.Test.YtdncljdfmdgdaaaGreatDoorM13
import Derived.Test.YtdncljdfmdgdaaaGreatDoorM19
import Derived.Test.YtdncljdfmdgdaaaGreatDoorM22
import Derived.KernelRfl
namespace Go.Proofs.YtdncljdfmdgdaaaGreatDoor
open Go.RowKit Go.Shelf Go.WideMaps
set_option linter.unusedSimpArgs false
set_option linter.unusedVariables false
theorem Sx.okS_mem {d : Nat} {l : List Sx.St} (h : Sx.rightSs NM d l = true) : ∀ s ∈ l, Sx.okS s := fun s hs => ⟨d, Sx.rightSs_mem h s hs⟩
set_option maxRecDepth 100000 in
set_option maxHeartbeats 4000000 in
theorem zlaZ (l : List Sx.St) (v : Value) (W : World) (hG : GS W) (hN : NG ≤ W.heap.size) (ht : StRow W v l) (hsz : Sx.sizeSs l ≤ 1000000) (hlen : (Sx.stmts SY l).length ≤ 900000000) :
  Calls Tryz.prog 24 #[v] W fun e W' => e = .returned (.tuple #[.string ⟨(Sx.said (Sx.rightSs NM 64 l) (Sx.stmts SY l)).1.toArray⟩, .int .i64 ((Sx.said (Sx.rightSs NM 64 l) (Sx.stmts SY l)).2 : Nat)]) ∧ Below W.heap.size W W' := by
 have hrt : ∀ X, Below W.heap.size W X → Calls Tryz.prog 65 #[v, .int .i64 64] X fun e W' => e = .returned (.bool (Sx.rightSs NM 64 l)) ∧ Below X.heap.size X W' := fun X hb => zgiZ 64 (by omega) l v X (hG.below hb) (Nat.le_trans hN hb.size) (ht.below hb) hsz
 have htyp := fun b w (hr : Sx.rightSs NM 64 l = true) (h : Wrote W b 0 [] w) => zigZ (b := b) hG hN _ l (Nat.le_refl _) v [] w (Sx.okS_mem hr) ht hsz h (by simpa using hlen)
 obtain ⟨A, c, rfl, -, -⟩ := ht
 obtain ⟨L, hL⟩ : ∃ L, W.heap.size = L := ⟨_, rfl⟩
 obtain ⟨w3, hw3⟩ : ∃ w3, W.alloc (.cells #[.pointer none, .slice none 0 0, .int .i64 0] 104) = w3 := ⟨_, rfl⟩
 have htree : w3.heap[L]? = some (.cells #[.pointer none, .slice none 0 0, .int .i64 0] 104 (0, 0)) := by rw [← hw3, ← hL]; exact heap_alloc_new W _
 have hb3 : Below W.heap.size W w3 := by rw [← hw3]; exact zdZ (World.grownBy_alloc W _ none)
 have hs3 : L < w3.heap.size := zaZ htree
 have HFR := Lib.hid (show ∀ w4, Below w3.heap.size w3 w4 → Wrote W L 0 [] w4 ∧ L < w4.heap.size from fun w4 hb4 =>
  ⟨Wrote.fresh (by omega) ((hb4.block L hs3).trans htree) (hb3.trans (hb4.mono hb3.size)), Nat.lt_of_lt_of_le hs3 hb4.size⟩)
 have HRT := Lib.hid (hrt w3 hb3)
 have HTYP := Lib.hid htyp
 have HLN := Lib.hid hlen
 clear hrt htyp hlen hb3 htree hG hsz
 cases hr : Sx.rightSs NM 64 l with
 | false =>
  rw [hr] at HRT
  have HR := Lib.hid hr
  clear hr
  go_enter Tryz.func24, Tryz.ntmps24
  go_wp2_with (first
   | (go_at_call 65; refine HRT.out.mono ?_; rintro e w4 ⟨rfl, hb4⟩; obtain ⟨hW, hl4⟩ := HFR.out w4 hb4; have hW4 := Lib.hid hW; clear hb4 hW)
   | (go_at_call 60; refine (toldEnd hW4.out (by omega) false (fun _ => rfl)).mono ?_; rintro e w5 ⟨rfl, hb5⟩))
  refine bodyPost_ret (results_tmp2 rfl _ _ _) rfl ?_
  exact ⟨rfl, by first | exact hb5 | exact hL ▸ hb5⟩
 | true =>
  rw [hr] at HRT
  have HR := Lib.hid hr
  clear hr
  go_enter Tryz.func24, Tryz.ntmps24
  go_wp2_with (first
   | (go_at_call 65; refine HRT.out.mono ?_; rintro e w4 ⟨rfl, hb4⟩; obtain ⟨hW, hl4⟩ := HFR.out w4 hb4; have hW4 := Lib.hid hW; clear hb4 hW)
   | (go_at_call 66; refine (HTYP.out L w4 HR.out hW4.out).mono ?_; rintro e w5 ⟨rfl, h5, -⟩; have hl5 := h5.lt; have hW5 := Lib.hid h5; clear h5)
   | (go_at_call 60; refine (toldEnd hW5.out (by have := HLN.out; simp; omega) true (fun h => by cases h)).mono ?_; rintro e w6 ⟨rfl, hb6⟩))
  refine bodyPost_ret (results_tmp2 rfl _ _ _) rfl ?_
  exact ⟨rfl, by first | exact hb6 | exact hL ▸ hb6⟩
end Go.Proofs.YtdncljdfmdgdaaaGreatDoor
namespace Go.Proofs.YtdncljdfmdgdaaaGreatDoor
open Go.RowKit Go.Shelf
set_option linter.unusedSimpArgs false
set_option linter.unusedVariables false
def tI : Sx.Ty := .mk 1 [] [] [] []
def tB : Sx.Ty := .mk 4 [66] [] [] []
def tA : Sx.Ty := .mk 4 [97] [] [] []
def tRec : Sx.Ty := .mk 6 [] [[97], [98]] [false, true] [tI, tB]
def tRec2 : Sx.Ty := .mk 6 [] [[97], [97]] [false, true] [tI, tB]
def tP : Sx.Ty := .mk 5 [] [] [] [tRec]
def tF : Sx.Ty := .mk 7 [] [] [] [tI, tB]
def tIf : Sx.Ty := .mk 8 [] [[97]] [] [tF]
def xN (n : Int) : Sx.Ex := .mk 0 1 n [] [] [] []
def xV (s : Lx.Bytes) : Sx.Ex := .mk 0 4 0 s [] [] []
def xTwo (k : Int) (a b : Sx.Ex) : Sx.Ex := .mk 0 k 0 [] [] [] [a, b]
def xOne (k : Int) (s : Lx.Bytes) (a : Sx.Ex) : Sx.Ex := .mk 0 k 0 s [] [] [a]
theorem isTI (w : World) : IsTy w (.agg #[.int .i64 1, .string ⟨#[]⟩, .slice none 0 0, .slice none 0 0, .slice none 0 0]) tI := IsTy.made (nm := []) (StrRow.nil ..) (BoolRow.nil ..) (TyRow.nil ..)
theorem isTN (w : World) (s : Lx.Bytes) : IsTy w (.agg #[.int .i64 4, .string ⟨s.toArray⟩, .slice none 0 0, .slice none 0 0, .slice none 0 0]) (.mk 4 s [] [] []) := IsTy.made (StrRow.nil ..) (BoolRow.nil ..) (TyRow.nil ..)
theorem isXN (w : World) (n : Int) (h0 : -9223372036854775808 ≤ n) (h1 : n ≤ 9223372036854775807) : IsEx w (.agg #[.int .i64 0, .int .i64 1, .int .i64 n, .string ⟨#[]⟩, .slice none 0 0, .slice none 0 0, .slice none 0 0]) (xN n) := IsEx.made (s := []) (TyRow.nil ..) (StrRow.nil ..) (ExRow.nil ..) h0 h1
theorem isXV (w : World) (s : Lx.Bytes) : IsEx w (.agg #[.int .i64 0, .int .i64 4, .int .i64 0, .string ⟨s.toArray⟩, .slice none 0 0, .slice none 0 0, .slice none 0 0]) (xV s) := IsEx.made (TyRow.nil ..) (StrRow.nil ..) (ExRow.nil ..) (by omega) (by omega)
theorem sP : Sx.said (Sx.rightT NM 64 tP) (Sx.typ tP) = ([42, 32, 123, 32, 97, 32, 105, 110, 116, 32, 59, 32, 101, 109, 98, 101, 100, 32, 98, 32, 66, 32, 59, 32, 125], 0) := by kernel_rfl
theorem sIf : Sx.said (Sx.rightT NM 64 tIf) (Sx.typ tIf) = ([105, 110, 116, 101, 114, 102, 97, 99, 101, 32, 123, 32, 97, 32, 40, 32, 105, 110, 116, 32, 41, 32, 66, 32, 59, 32, 125], 0) := by kernel_rfl
theorem sA : Sx.said (Sx.rightT NM 64 tA) (Sx.typ tA) = ([], 1) := by kernel_rfl
theorem sRec2 : Sx.said (Sx.rightT NM 64 tRec2) (Sx.typ tRec2) = ([], 1) := by kernel_rfl
theorem sNil : Sx.said (Sx.rightSs NM 64 []) (Sx.stmts SY []) = ([], 0) := by kernel_rfl
theorem nP : Sx.nodesL [tP] = 3 := by kernel_rfl
theorem nIf : Sx.nodesL [tIf] = 3 := by kernel_rfl
theorem nPI : Sx.nodesL [tP, tIf] = 6 := by kernel_rfl
theorem dP : Sx.depthL [tP] = 3 := by kernel_rfl
theorem mP : Sx.once [] (Sx.allNamesL [tP]) = [[66]] := by kernel_rfl
theorem e1 : Sx.said (Sx.rightX NM 64 (xTwo 15 (xTwo 16 (xN 1) (xN 2)) (xN 3))) (Sx.expr SY (xTwo 15 (xTwo 16 (xN 1) (xN 2)) (xN 3))) = ([40, 32, 49, 32, 43, 32, 50, 32, 41, 32, 42, 32, 51], 0) := by kernel_rfl
theorem e1z : decide (Sx.sizeX (xTwo 15 (xTwo 16 (xN 1) (xN 2)) (xN 3)) ≤ 1000000) = true := by kernel_rfl
theorem e1l : decide ((Sx.expr SY (xTwo 15 (xTwo 16 (xN 1) (xN 2)) (xN 3))).length ≤ 900000000) = true := by kernel_rfl
theorem e2 : Sx.said (Sx.rightX NM 64 (xTwo 16 (xN 1) (xTwo 15 (xN 2) (xN 3)))) (Sx.expr SY (xTwo 16 (xN 1) (xTwo 15 (xN 2) (xN 3)))) = ([49, 32, 43, 32, 50, 32, 42, 32, 51], 0) := by kernel_rfl
theorem e2z : decide (Sx.sizeX (xTwo 16 (xN 1) (xTwo 15 (xN 2) (xN 3))) ≤ 1000000) = true := by kernel_rfl
theorem e2l : decide ((Sx.expr SY (xTwo 16 (xN 1) (xTwo 15 (xN 2) (xN 3)))).length ≤ 900000000) = true := by kernel_rfl
theorem e3 : Sx.said (Sx.rightX NM 64 (xTwo 17 (xN 1) (xTwo 17 (xN 2) (xN 3)))) (Sx.expr SY (xTwo 17 (xN 1) (xTwo 17 (xN 2) (xN 3)))) = ([49, 32, 45, 32, 40, 32, 50, 32, 45, 32, 51, 32, 41], 0) := by kernel_rfl
theorem e3z : decide (Sx.sizeX (xTwo 17 (xN 1) (xTwo 17 (xN 2) (xN 3))) ≤ 1000000) = true := by kernel_rfl
theorem e3l : decide ((Sx.expr SY (xTwo 17 (xN 1) (xTwo 17 (xN 2) (xN 3)))).length ≤ 900000000) = true := by kernel_rfl
theorem e4 : Sx.said (Sx.rightX NM 64 (xOne 11 [] (xOne 9 [97] (xV [120])))) (Sx.expr SY (xOne 11 [] (xOne 9 [97] (xV [120])))) = ([40, 32, 120, 32, 46, 32, 97, 32, 41, 32, 40, 32, 41], 0) := by kernel_rfl
theorem e4z : decide (Sx.sizeX (xOne 11 [] (xOne 9 [97] (xV [120]))) ≤ 1000000) = true := by kernel_rfl
theorem e4l : decide ((Sx.expr SY (xOne 11 [] (xOne 9 [97] (xV [120])))).length ≤ 900000000) = true := by kernel_rfl
theorem e5 : Sx.said (Sx.rightX NM 64 (xOne 10 [97] (xV [120]))) (Sx.expr SY (xOne 10 [97] (xV [120]))) = ([120, 32, 46, 32, 97, 32, 40, 32, 41], 0) := by kernel_rfl
theorem e5z : decide (Sx.sizeX (xOne 10 [97] (xV [120])) ≤ 1000000) = true := by kernel_rfl
theorem e5l : decide ((Sx.expr SY (xOne 10 [97] (xV [120]))).length ≤ 900000000) = true := by kernel_rfl
theorem e6 : Sx.said (Sx.rightX NM 64 (xOne 14 [] (xTwo 18 (xV [120]) (xV [121])))) (Sx.expr SY (xOne 14 [] (xTwo 18 (xV [120]) (xV [121])))) = ([110, 111, 116, 32, 40, 32, 120, 32, 61, 61, 32, 121, 32, 41], 0) := by kernel_rfl
theorem e6z : decide (Sx.sizeX (xOne 14 [] (xTwo 18 (xV [120]) (xV [121]))) ≤ 1000000) = true := by kernel_rfl
theorem e6l : decide ((Sx.expr SY (xOne 14 [] (xTwo 18 (xV [120]) (xV [121])))).length ≤ 900000000) = true := by kernel_rfl
theorem e7 : Sx.said (Sx.rightX NM 64 (xTwo 18 (xTwo 18 (xV [120]) (xV [121])) (xV [122]))) (Sx.expr SY (xTwo 18 (xTwo 18 (xV [120]) (xV [121])) (xV [122]))) = ([40, 32, 120, 32, 61, 61, 32, 121, 32, 41, 32, 61, 61, 32, 122], 0) := by kernel_rfl
theorem e7z : decide (Sx.sizeX (xTwo 18 (xTwo 18 (xV [120]) (xV [121])) (xV [122])) ≤ 1000000) = true := by kernel_rfl
theorem e7l : decide ((Sx.expr SY (xTwo 18 (xTwo 18 (xV [120]) (xV [121])) (xV [122]))).length ≤ 900000000) = true := by kernel_rfl
theorem e8 : Sx.said (Sx.rightX NM 64 (xN (-1))) (Sx.expr SY (xN (-1))) = ([], 1) := by kernel_rfl
theorem e8l : decide ((Sx.expr SY (xN (-1))).length ≤ 900000000) = true := by kernel_rfl
theorem ztP : decide (Sx.size tP ≤ 1000000) = true := by kernel_rfl
theorem ztIf : decide (Sx.size tIf ≤ 1000000) = true := by kernel_rfl
theorem ztA : decide (Sx.size tA ≤ 1000000) = true := by kernel_rfl
theorem ztRec2 : decide (Sx.size tRec2 ≤ 1000000) = true := by kernel_rfl
set_option maxRecDepth 100000 in
set_option maxHeartbeats 16000000 in
theorem znmZ (w0 : World) (hG : GL w0) (hN : NG ≤ w0.heap.size) :
  Calls Tryz.prog 3 #[] w0 fun e w' => e = .returned (.bool true) ∧ LW w0 w' := by
 have H0 := Lib.hid (LW.refl hG hN)
 have HN0 := Lib.hid hN
 clear hG hN
 go_enter Tryz.func3, Tryz.ntmps3
 obtain ⟨w1, hw1⟩ : ∃ X, w0.alloc (.cells #[.string ⟨#[97]⟩, .string ⟨#[98]⟩] 9) = X := ⟨_, rfl⟩
 obtain ⟨K0, hK0⟩ : ∃ K, w0.heap.size = K := ⟨_, rfl⟩
 have hb1 : Below w0.heap.size w0 w1 := by rw [← hw1]; exact zdZ (World.grownBy_alloc w0 _ none)
 have hl1 : K0 < w1.heap.size := by rw [← hw1, ← hK0]; simp
 have H1 := Lib.hid (H0.out.go hb1)
 clear hb1
 have Fsab_1 := Lib.hid (show StrRow w1 (.slice (some ⟨K0, 0, none⟩) 2 2) [[97], [98]] from by rw [← hw1, ← hK0]; exact StrRow.new w0 [[97], [98]])
 obtain ⟨w2, hw2⟩ : ∃ X, w1.alloc (.cells #[.bool false, .bool true] 4) = X := ⟨_, rfl⟩
 obtain ⟨K1, hK1⟩ : ∃ K, w1.heap.size = K := ⟨_, rfl⟩
 have hb2 : Below w1.heap.size w1 w2 := by rw [← hw2]; exact zdZ (World.grownBy_alloc w1 _ none)
 have hl2 : K1 < w2.heap.size := by rw [← hw2, ← hK1]; simp
 have Fsab_2 := Lib.hid (Fsab_1.out.below hb2)
 have H2 := Lib.hid (H1.out.go hb2)
 clear hb2
 have Fbft_2 := Lib.hid (show BoolRow w2 (.slice (some ⟨K1, 0, none⟩) 2 2) [false, true] from by rw [← hw2, ← hK1]; exact BoolRow.new w1 [false, true])
 clear H0 Fsab_1 H1
 go_wp2_with fail
 refine (lawTy 1 none 0 0 w2).mono ?_
 rintro e w3 ⟨rfl, hb⟩
 have Fsab_3 := Lib.hid (Fsab_2.out.below hb)
 have Fbft_3 := Lib.hid (Fbft_2.out.below hb)
 have H3 := Lib.hid (H2.out.go hb)
 clear hb
 clear hl1 hl2
 clear Fsab_2 Fbft_2 H2
 go_wp2_with fail
 refine (zenZ ⟨#[66]⟩ w3).mono ?_
 rintro e w4 ⟨rfl, hb⟩
 have Fsab_4 := Lib.hid (Fsab_3.out.below hb)
 have Fbft_4 := Lib.hid (Fbft_3.out.below hb)
 have H4 := Lib.hid (H3.out.go hb)
 clear hb
 obtain ⟨w5, hw5⟩ : ∃ X, w4.alloc (.cells #[.int .i64 1, .string ⟨#[]⟩, .slice none 0 0, .slice none 0 0, .slice none 0 0, .int .i64 4, .string ⟨#[66]⟩, .slice none 0 0, .slice none 0 0, .slice none 0 0] 26) = X := ⟨_, rfl⟩
 obtain ⟨K4, hK4⟩ : ∃ K, w4.heap.size = K := ⟨_, rfl⟩
 have hb5 : Below w4.heap.size w4 w5 := by rw [← hw5]; exact zdZ (World.grownBy_alloc w4 _ none)
 have hl5 : K4 < w5.heap.size := by rw [← hw5, ← hK4]; simp
 have Fsab_5 := Lib.hid (Fsab_4.out.below hb5)
 have Fbft_5 := Lib.hid (Fbft_4.out.below hb5)
 have H5 := Lib.hid (H4.out.go hb5)
 clear hb5
 have Frib_5 := Lib.hid (show TyRow w5 (.slice (some ⟨K4, 0, none⟩) 2 2) [tI, tB] from by rw [← hw5, ← hK4]; exact TyRow.new2 (isTI _) (isTN _ [66]))
 have GB := Fbft_5
 have GR := Frib_5
 have HN8 := Lib.hid H5.out.n
 have HB8 := Lib.hid H5.out.b.size
 have Fb8_5 := Lib.hid (show Below w5.heap.size w5 w5 from Below.refl _ _)
 obtain ⟨w6, hw6⟩ : ∃ X, w5.alloc (.cells #[.int .i64 6, .string ⟨#[]⟩, .slice (some ⟨K0, 0, none⟩) 2 2, .slice (some ⟨K1, 0, none⟩) 2 2, .slice (some ⟨K4, 0, none⟩) 2 2] 26) = X := ⟨_, rfl⟩
 obtain ⟨K5, hK5⟩ : ∃ K, w5.heap.size = K := ⟨_, rfl⟩
 have hb6 : Below w5.heap.size w5 w6 := by rw [← hw6]; exact zdZ (World.grownBy_alloc w5 _ none)
 have hl6 : K5 < w6.heap.size := by rw [← hw6, ← hK5]; simp
 have Fsab_6 := Lib.hid (Fsab_5.out.below hb6)
 have Fbft_6 := Lib.hid (Fbft_5.out.below hb6)
 have Frib_6 := Lib.hid (Frib_5.out.below hb6)
 have Fb8_6 := Lib.hid (Fb8_5.out.trans (hb6.mono Fb8_5.out.size))
 have H6 := Lib.hid (H5.out.go hb6)
 clear hb6
 have Frec_6 := Lib.hid (show w6.heap[K5]? = some (.cells #[.int .i64 6, .string ⟨#[]⟩, .slice (some ⟨K0, 0, none⟩) 2 2, .slice (some ⟨K1, 0, none⟩) 2 2, .slice (some ⟨K4, 0, none⟩) 2 2] 26 (0, 0)) by rw [← hw6, ← hK5]; exact heap_alloc_new w5 _)
 have Frect_6 := Lib.hid (show IsTy w6 (.agg #[.int .i64 6, .string ⟨#[]⟩, .slice (some ⟨K0, 0, none⟩) 2 2, .slice (some ⟨K1, 0, none⟩) 2 2, .slice (some ⟨K4, 0, none⟩) 2 2]) tRec from IsTy.made (nm := []) Fsab_6.out Fbft_6.out Frib_6.out)
 obtain ⟨xrec0_6, xrec1_6, xrec2_6, xrec3_6, xrec4_6⟩ := zcZ Frec_6.out
 have xlrec_6 := zaZ Frec_6.out
 obtain ⟨w7, hw7⟩ : ∃ X, w6.alloc (.cells #[.int .i64 6, .string ⟨#[]⟩, .slice (some ⟨K0, 0, none⟩) 2 2, .slice (some ⟨K1, 0, none⟩) 2 2, .slice (some ⟨K4, 0, none⟩) 2 2] 26) = X := ⟨_, rfl⟩
 obtain ⟨K6, hK6⟩ : ∃ K, w6.heap.size = K := ⟨_, rfl⟩
 have hb7 : Below w6.heap.size w6 w7 := by rw [← hw7]; exact zdZ (World.grownBy_alloc w6 _ none)
 have hl7 : K6 < w7.heap.size := by rw [← hw7, ← hK6]; simp
 have Fsab_7 := Lib.hid (Fsab_6.out.below hb7)
 have Fbft_7 := Lib.hid (Fbft_6.out.below hb7)
 have Frib_7 := Lib.hid (Frib_6.out.below hb7)
 have Fb8_7 := Lib.hid (Fb8_6.out.trans (hb7.mono Fb8_6.out.size))
 have Frec_7 := Lib.hid ((hb7.block _ (zaZ Frec_6.out)).trans Frec_6.out)
 have Frect_7 := Lib.hid (IsTy.below hb7 _ _ Frect_6.out)
 have H7 := Lib.hid (H6.out.go hb7)
 clear hb7
 have Frrec_7 := Lib.hid (show TyRow w7 (.slice (some ⟨K6, 0, none⟩) 1 1) [tRec] from by rw [← hw7, ← hK6]; exact TyRow.new1 (Frect_6.out))
 clear Fsab_3 Fbft_3 H3 Fsab_4 Fbft_4 H4 Fsab_5 Fbft_5 Frib_5 Fb8_5 H5 Fsab_6 Fbft_6 Frib_6 Fb8_6 Frec_6 Frect_6 H6
 go_wp2_with fail
 refine (lawTy 5 _ 1 1 w7).mono ?_
 rintro e w8 ⟨rfl, hb⟩
 have Fsab_8 := Lib.hid (Fsab_7.out.below hb)
 have Fbft_8 := Lib.hid (Fbft_7.out.below hb)
 have Frib_8 := Lib.hid (Frib_7.out.below hb)
 have Fb8_8 := Lib.hid (Fb8_7.out.trans (hb.mono Fb8_7.out.size))
 have Frec_8 := Lib.hid ((hb.block _ (zaZ Frec_7.out)).trans Frec_7.out)
 have Frect_8 := Lib.hid (IsTy.below hb _ _ Frect_7.out)
 have Frrec_8 := Lib.hid (Frrec_7.out.below hb)
 have H8 := Lib.hid (H7.out.go hb)
 clear hb
 clear hl5 hl6 xrec0_6 xrec1_6 xrec2_6 xrec3_6 xrec4_6 xlrec_6 hl7
 obtain ⟨w9, hw9⟩ : ∃ X, w8.alloc (.cells #[.int .i64 5, .string ⟨#[]⟩, .slice none 0 0, .slice none 0 0, .slice (some ⟨K6, 0, none⟩) 1 1] 26) = X := ⟨_, rfl⟩
 obtain ⟨K8, hK8⟩ : ∃ K, w8.heap.size = K := ⟨_, rfl⟩
 have hb9 : Below w8.heap.size w8 w9 := by rw [← hw9]; exact zdZ (World.grownBy_alloc w8 _ none)
 have hl9 : K8 < w9.heap.size := by rw [← hw9, ← hK8]; simp
 have Fsab_9 := Lib.hid (Fsab_8.out.below hb9)
 have Fbft_9 := Lib.hid (Fbft_8.out.below hb9)
 have Frib_9 := Lib.hid (Frib_8.out.below hb9)
 have Fb8_9 := Lib.hid (Fb8_8.out.trans (hb9.mono Fb8_8.out.size))
 have Frec_9 := Lib.hid ((hb9.block _ (zaZ Frec_8.out)).trans Frec_8.out)
 have Frect_9 := Lib.hid (IsTy.below hb9 _ _ Frect_8.out)
 have Frrec_9 := Lib.hid (Frrec_8.out.below hb9)
 have H9 := Lib.hid (H8.out.go hb9)
 clear hb9
 have Fp_9 := Lib.hid (show w9.heap[K8]? = some (.cells #[.int .i64 5, .string ⟨#[]⟩, .slice none 0 0, .slice none 0 0, .slice (some ⟨K6, 0, none⟩) 1 1] 26 (0, 0)) by rw [← hw9, ← hK8]; exact heap_alloc_new w8 _)
 have Fpt_9 := Lib.hid (show IsTy w9 (.agg #[.int .i64 5, .string ⟨#[]⟩, .slice none 0 0, .slice none 0 0, .slice (some ⟨K6, 0, none⟩) 1 1]) tP from IsTy.made (nm := []) (StrRow.nil ..) (BoolRow.nil ..) Frrec_9.out)
 obtain ⟨w10, hw10⟩ : ∃ X, w9.alloc (.cells #[.string ⟨#[97]⟩] 9) = X := ⟨_, rfl⟩
 obtain ⟨K9, hK9⟩ : ∃ K, w9.heap.size = K := ⟨_, rfl⟩
 have hb10 : Below w9.heap.size w9 w10 := by rw [← hw10]; exact zdZ (World.grownBy_alloc w9 _ none)
 have hl10 : K9 < w10.heap.size := by rw [← hw10, ← hK9]; simp
 have Fsab_10 := Lib.hid (Fsab_9.out.below hb10)
 have Fbft_10 := Lib.hid (Fbft_9.out.below hb10)
 have Frib_10 := Lib.hid (Frib_9.out.below hb10)
 have Fb8_10 := Lib.hid (Fb8_9.out.trans (hb10.mono Fb8_9.out.size))
 have Frec_10 := Lib.hid ((hb10.block _ (zaZ Frec_9.out)).trans Frec_9.out)
 have Frect_10 := Lib.hid (IsTy.below hb10 _ _ Frect_9.out)
 have Frrec_10 := Lib.hid (Frrec_9.out.below hb10)
 have Fp_10 := Lib.hid ((hb10.block _ (zaZ Fp_9.out)).trans Fp_9.out)
 have Fpt_10 := Lib.hid (IsTy.below hb10 _ _ Fpt_9.out)
 have H10 := Lib.hid (H9.out.go hb10)
 clear hb10
 have Fsa_10 := Lib.hid (show StrRow w10 (.slice (some ⟨K9, 0, none⟩) 1 1) [[97]] from by rw [← hw10, ← hK9]; exact StrRow.new w9 [[97]])
 clear Fsab_7 Fbft_7 Frib_7 Fb8_7 Frec_7 Frect_7 Frrec_7 H7 Fsab_8 Fbft_8 Frib_8 Fb8_8 Frec_8 Frect_8 Frrec_8 H8 Fsab_9 Fbft_9 Frib_9 Fb8_9 Frec_9 Frect_9 Frrec_9 Fp_9 Fpt_9 H9
 go_wp2_with fail
 refine (lawTy 1 none 0 0 w10).mono ?_
 rintro e w11 ⟨rfl, hb⟩
 have Fsab_11 := Lib.hid (Fsab_10.out.below hb)
 have Fbft_11 := Lib.hid (Fbft_10.out.below hb)
 have Frib_11 := Lib.hid (Frib_10.out.below hb)
 have Fb8_11 := Lib.hid (Fb8_10.out.trans (hb.mono Fb8_10.out.size))
 have Frec_11 := Lib.hid ((hb.block _ (zaZ Frec_10.out)).trans Frec_10.out)
 have Frect_11 := Lib.hid (IsTy.below hb _ _ Frect_10.out)
 have Frrec_11 := Lib.hid (Frrec_10.out.below hb)
 have Fp_11 := Lib.hid ((hb.block _ (zaZ Fp_10.out)).trans Fp_10.out)
 have Fpt_11 := Lib.hid (IsTy.below hb _ _ Fpt_10.out)
 have Fsa_11 := Lib.hid (Fsa_10.out.below hb)
 have H11 := Lib.hid (H10.out.go hb)
 clear hb
 clear hl9 hl10
 clear Fsab_10 Fbft_10 Frib_10 Fb8_10 Frec_10 Frect_10 Frrec_10 Fp_10 Fpt_10 Fsa_10 H10
 go_wp2_with fail
 refine (zenZ ⟨#[66]⟩ w11).mono ?_
 rintro e w12 ⟨rfl, hb⟩
 have Fsab_12 := Lib.hid (Fsab_11.out.below hb)
 have Fbft_12 := Lib.hid (Fbft_11.out.below hb)
 have Frib_12 := Lib.hid (Frib_11.out.below hb)
 have Fb8_12 := Lib.hid (Fb8_11.out.trans (hb.mono Fb8_11.out.size))
 have Frec_12 := Lib.hid ((hb.block _ (zaZ Frec_11.out)).trans Frec_11.out)
 have Frect_12 := Lib.hid (IsTy.below hb _ _ Frect_11.out)
 have Frrec_12 := Lib.hid (Frrec_11.out.below hb)
 have Fp_12 := Lib.hid ((hb.block _ (zaZ Fp_11.out)).trans Fp_11.out)
 have Fpt_12 := Lib.hid (IsTy.below hb _ _ Fpt_11.out)
 have Fsa_12 := Lib.hid (Fsa_11.out.below hb)
 have H12 := Lib.hid (H11.out.go hb)
 clear hb
 obtain ⟨w13, hw13⟩ : ∃ X, w12.alloc (.cells #[.int .i64 1, .string ⟨#[]⟩, .slice none 0 0, .slice none 0 0, .slice none 0 0, .int .i64 4, .string ⟨#[66]⟩, .slice none 0 0, .slice none 0 0, .slice none 0 0] 26) = X := ⟨_, rfl⟩
 obtain ⟨K12, hK12⟩ : ∃ K, w12.heap.size = K := ⟨_, rfl⟩
 have hb13 : Below w12.heap.size w12 w13 := by rw [← hw13]; exact zdZ (World.grownBy_alloc w12 _ none)
 have hl13 : K12 < w13.heap.size := by rw [← hw13, ← hK12]; simp
 have Fsab_13 := Lib.hid (Fsab_12.out.below hb13)
 have Fbft_13 := Lib.hid (Fbft_12.out.below hb13)
 have Frib_13 := Lib.hid (Frib_12.out.below hb13)
 have Fb8_13 := Lib.hid (Fb8_12.out.trans (hb13.mono Fb8_12.out.size))
 have Frec_13 := Lib.hid ((hb13.block _ (zaZ Frec_12.out)).trans Frec_12.out)
 have Frect_13 := Lib.hid (IsTy.below hb13 _ _ Frect_12.out)
 have Frrec_13 := Lib.hid (Frrec_12.out.below hb13)
 have Fp_13 := Lib.hid ((hb13.block _ (zaZ Fp_12.out)).trans Fp_12.out)
 have Fpt_13 := Lib.hid (IsTy.below hb13 _ _ Fpt_12.out)
 have Fsa_13 := Lib.hid (Fsa_12.out.below hb13)
 have H13 := Lib.hid (H12.out.go hb13)
 clear hb13
 have Frib2_13 := Lib.hid (show TyRow w13 (.slice (some ⟨K12, 0, none⟩) 2 2) [tI, tB] from by rw [← hw13, ← hK12]; exact TyRow.new2 (isTI _) (isTN _ [66]))
 clear Fsab_11 Fbft_11 Frib_11 Fb8_11 Frec_11 Frect_11 Frrec_11 Fp_11 Fpt_11 Fsa_11 H11 Fsab_12 Fbft_12 Frib_12 Fb8_12 Frec_12 Frect_12 Frrec_12 Fp_12 Fpt_12 Fsa_12 H12
 go_wp2_with fail
 refine (lawTy 7 _ 2 2 w13).mono ?_
 rintro e w14 ⟨rfl, hb⟩
 have Fsab_14 := Lib.hid (Fsab_13.out.below hb)
 have Fbft_14 := Lib.hid (Fbft_13.out.below hb)
 have Frib_14 := Lib.hid (Frib_13.out.below hb)
 have Fb8_14 := Lib.hid (Fb8_13.out.trans (hb.mono Fb8_13.out.size))
 have Frec_14 := Lib.hid ((hb.block _ (zaZ Frec_13.out)).trans Frec_13.out)
 have Frect_14 := Lib.hid (IsTy.below hb _ _ Frect_13.out)
 have Frrec_14 := Lib.hid (Frrec_13.out.below hb)
 have Fp_14 := Lib.hid ((hb.block _ (zaZ Fp_13.out)).trans Fp_13.out)
 have Fpt_14 := Lib.hid (IsTy.below hb _ _ Fpt_13.out)
 have Fsa_14 := Lib.hid (Fsa_13.out.below hb)
 have Frib2_14 := Lib.hid (Frib2_13.out.below hb)
 have H14 := Lib.hid (H13.out.go hb)
 clear hb
 clear hl13
 have Fft_14 := Lib.hid (show IsTy w14 (.agg #[.int .i64 7, .string ⟨#[]⟩, .slice none 0 0, .slice none 0 0, .slice (some ⟨K12, 0, none⟩) 2 2]) tF from IsTy.made (nm := []) (StrRow.nil ..) (BoolRow.nil ..) Frib2_14.out)
 obtain ⟨w15, hw15⟩ : ∃ X, w14.alloc (.cells #[.int .i64 7, .string ⟨#[]⟩, .slice none 0 0, .slice none 0 0, .slice (some ⟨K12, 0, none⟩) 2 2] 26) = X := ⟨_, rfl⟩
 obtain ⟨K14, hK14⟩ : ∃ K, w14.heap.size = K := ⟨_, rfl⟩
 have hb15 : Below w14.heap.size w14 w15 := by rw [← hw15]; exact zdZ (World.grownBy_alloc w14 _ none)
 have hl15 : K14 < w15.heap.size := by rw [← hw15, ← hK14]; simp
 have Fsab_15 := Lib.hid (Fsab_14.out.below hb15)
 have Fbft_15 := Lib.hid (Fbft_14.out.below hb15)
 have Frib_15 := Lib.hid (Frib_14.out.below hb15)
 have Fb8_15 := Lib.hid (Fb8_14.out.trans (hb15.mono Fb8_14.out.size))
 have Frec_15 := Lib.hid ((hb15.block _ (zaZ Frec_14.out)).trans Frec_14.out)
 have Frect_15 := Lib.hid (IsTy.below hb15 _ _ Frect_14.out)
 have Frrec_15 := Lib.hid (Frrec_14.out.below hb15)
 have Fp_15 := Lib.hid ((hb15.block _ (zaZ Fp_14.out)).trans Fp_14.out)
 have Fpt_15 := Lib.hid (IsTy.below hb15 _ _ Fpt_14.out)
 have Fsa_15 := Lib.hid (Fsa_14.out.below hb15)
 have Frib2_15 := Lib.hid (Frib2_14.out.below hb15)
 have Fft_15 := Lib.hid (IsTy.below hb15 _ _ Fft_14.out)
 have H15 := Lib.hid (H14.out.go hb15)
 clear hb15
 have Frf_15 := Lib.hid (show TyRow w15 (.slice (some ⟨K14, 0, none⟩) 1 1) [tF] from by rw [← hw15, ← hK14]; exact TyRow.new1 (Fft_14.out))
 obtain ⟨w16, hw16⟩ : ∃ X, w15.alloc (.cells #[.int .i64 8, .string ⟨#[]⟩, .slice (some ⟨K9, 0, none⟩) 1 1, .slice none 0 0, .slice (some ⟨K14, 0, none⟩) 1 1] 26) = X := ⟨_, rfl⟩
 obtain ⟨K15, hK15⟩ : ∃ K, w15.heap.size = K := ⟨_, rfl⟩
 have hb16 : Below w15.heap.size w15 w16 := by rw [← hw16]; exact zdZ (World.grownBy_alloc w15 _ none)
 have hl16 : K15 < w16.heap.size := by rw [← hw16, ← hK15]; simp
 have Fsab_16 := Lib.hid (Fsab_15.out.below hb16)
 have Fbft_16 := Lib.hid (Fbft_15.out.below hb16)
 have Frib_16 := Lib.hid (Frib_15.out.below hb16)
 have Fb8_16 := Lib.hid (Fb8_15.out.trans (hb16.mono Fb8_15.out.size))
 have Frec_16 := Lib.hid ((hb16.block _ (zaZ Frec_15.out)).trans Frec_15.out)
 have Frect_16 := Lib.hid (IsTy.below hb16 _ _ Frect_15.out)
 have Frrec_16 := Lib.hid (Frrec_15.out.below hb16)
 have Fp_16 := Lib.hid ((hb16.block _ (zaZ Fp_15.out)).trans Fp_15.out)
 have Fpt_16 := Lib.hid (IsTy.below hb16 _ _ Fpt_15.out)
 have Fsa_16 := Lib.hid (Fsa_15.out.below hb16)
 have Frib2_16 := Lib.hid (Frib2_15.out.below hb16)
 have Fft_16 := Lib.hid (IsTy.below hb16 _ _ Fft_15.out)
 have Frf_16 := Lib.hid (Frf_15.out.below hb16)
 have H16 := Lib.hid (H15.out.go hb16)
 clear hb16
 have Fi_16 := Lib.hid (show w16.heap[K15]? = some (.cells #[.int .i64 8, .string ⟨#[]⟩, .slice (some ⟨K9, 0, none⟩) 1 1, .slice none 0 0, .slice (some ⟨K14, 0, none⟩) 1 1] 26 (0, 0)) by rw [← hw16, ← hK15]; exact heap_alloc_new w15 _)
 have Fit_16 := Lib.hid (show IsTy w16 (.agg #[.int .i64 8, .string ⟨#[]⟩, .slice (some ⟨K9, 0, none⟩) 1 1, .slice none 0 0, .slice (some ⟨K14, 0, none⟩) 1 1]) tIf from IsTy.made (nm := []) Fsa_16.out (BoolRow.nil ..) Frf_16.out)
 clear Fsa_16
 clear Frf_16
 clear Fft_16
 clear Frib2_16
 clear Frrec_16
 clear Fsab_16
 obtain ⟨xp0_16, xp1_16, xp2_16, xp3_16, xp4_16⟩ := zcZ Fp_16.out
 have xlp_16 := zaZ Fp_16.out
 clear Fsab_13 Fbft_13 Frib_13 Fb8_13 Frec_13 Frect_13 Frrec_13 Fp_13 Fpt_13 Fsa_13 Frib2_13 H13 Fsab_14 Fbft_14 Frib_14 Fb8_14 Frec_14 Frect_14 Frrec_14 Fp_14 Fpt_14 Fsa_14 Frib2_14 Fft_14 H14 Fsab_15 Fbft_15 Frib_15 Fb8_15 Frec_15 Frect_15 Frrec_15 Fp_15 Fpt_15 Fsa_15 Frib2_15 Fft_15 Frf_15 H15
 go_wp2_with fail
 refine ((show Calls Tryz.prog 14 #[_] w16 (fun e W' => e = .returned (.tuple #[.string ⟨#[42, 32, 123, 32, 97, 32, 105, 110, 116, 32, 59, 32, 101, 109, 98, 101, 100, 32, 98, 32, 66, 32, 59, 32, 125]⟩, .int .i64 0]) ∧ Below w16.heap.size w16 W') from by have h := synType tP _ w16 H16.out.g.gs H16.out.n Fpt_16.out (of_decide_eq_true ztP); rw [sP] at h; exact h)).mono ?_
 rintro e w17 ⟨rfl, hb⟩
 have Fbft_17 := Lib.hid (Fbft_16.out.below hb)
 have Frib_17 := Lib.hid (Frib_16.out.below hb)
 have Fb8_17 := Lib.hid (Fb8_16.out.trans (hb.mono Fb8_16.out.size))
 have Frec_17 := Lib.hid ((hb.block _ (zaZ Frec_16.out)).trans Frec_16.out)
 have Frect_17 := Lib.hid (IsTy.below hb _ _ Frect_16.out)
 have Fp_17 := Lib.hid ((hb.block _ (zaZ Fp_16.out)).trans Fp_16.out)
 have Fpt_17 := Lib.hid (IsTy.below hb _ _ Fpt_16.out)
 have Fi_17 := Lib.hid ((hb.block _ (zaZ Fi_16.out)).trans Fi_16.out)
 have Fit_17 := Lib.hid (IsTy.below hb _ _ Fit_16.out)
 have H17 := Lib.hid (H16.out.go hb)
 clear hb
 clear hl15 hl16 xp0_16 xp1_16 xp2_16 xp3_16 xp4_16 xlp_16
 obtain ⟨xi0_17, xi1_17, xi2_17, xi3_17, xi4_17⟩ := zcZ Fi_17.out
 have xli_17 := zaZ Fi_17.out
 clear Fbft_16 Frib_16 Fb8_16 Frec_16 Frect_16 Fp_16 Fpt_16 Fi_16 Fit_16 H16
 go_wp2_with fail
 refine ((show Calls Tryz.prog 14 #[_] w17 (fun e W' => e = .returned (.tuple #[.string ⟨#[105, 110, 116, 101, 114, 102, 97, 99, 101, 32, 123, 32, 97, 32, 40, 32, 105, 110, 116, 32, 41, 32, 66, 32, 59, 32, 125]⟩, .int .i64 0]) ∧ Below w17.heap.size w17 W') from by have h := synType tIf _ w17 H17.out.g.gs H17.out.n Fit_17.out (of_decide_eq_true ztIf); rw [sIf] at h; exact h)).mono ?_
 rintro e w18 ⟨rfl, hb⟩
 have Fbft_18 := Lib.hid (Fbft_17.out.below hb)
 have Frib_18 := Lib.hid (Frib_17.out.below hb)
 have Fb8_18 := Lib.hid (Fb8_17.out.trans (hb.mono Fb8_17.out.size))
 have Frec_18 := Lib.hid ((hb.block _ (zaZ Frec_17.out)).trans Frec_17.out)
 have Frect_18 := Lib.hid (IsTy.below hb _ _ Frect_17.out)
 have Fp_18 := Lib.hid ((hb.block _ (zaZ Fp_17.out)).trans Fp_17.out)
 have Fpt_18 := Lib.hid (IsTy.below hb _ _ Fpt_17.out)
 have Fi_18 := Lib.hid ((hb.block _ (zaZ Fi_17.out)).trans Fi_17.out)
 have Fit_18 := Lib.hid (IsTy.below hb _ _ Fit_17.out)
 have H18 := Lib.hid (H17.out.go hb)
 clear hb
 clear xi0_17 xi1_17 xi2_17 xi3_17 xi4_17 xli_17
 obtain ⟨xp0_18, xp1_18, xp2_18, xp3_18, xp4_18⟩ := zcZ Fp_18.out
 have xlp_18 := zaZ Fp_18.out
 obtain ⟨w19, hw19⟩ : ∃ X, w18.alloc (.cells #[.int .i64 5, .string ⟨#[]⟩, .slice none 0 0, .slice none 0 0, .slice (some ⟨K6, 0, none⟩) 1 1] 26) = X := ⟨_, rfl⟩
 obtain ⟨K18, hK18⟩ : ∃ K, w18.heap.size = K := ⟨_, rfl⟩
 have hb19 : Below w18.heap.size w18 w19 := by rw [← hw19]; exact zdZ (World.grownBy_alloc w18 _ none)
 have hl19 : K18 < w19.heap.size := by rw [← hw19, ← hK18]; simp
 have Fbft_19 := Lib.hid (Fbft_18.out.below hb19)
 have Frib_19 := Lib.hid (Frib_18.out.below hb19)
 have Fb8_19 := Lib.hid (Fb8_18.out.trans (hb19.mono Fb8_18.out.size))
 have Frec_19 := Lib.hid ((hb19.block _ (zaZ Frec_18.out)).trans Frec_18.out)
 have Frect_19 := Lib.hid (IsTy.below hb19 _ _ Frect_18.out)
 have Fp_19 := Lib.hid ((hb19.block _ (zaZ Fp_18.out)).trans Fp_18.out)
 have Fpt_19 := Lib.hid (IsTy.below hb19 _ _ Fpt_18.out)
 have Fi_19 := Lib.hid ((hb19.block _ (zaZ Fi_18.out)).trans Fi_18.out)
 have Fit_19 := Lib.hid (IsTy.below hb19 _ _ Fit_18.out)
 have H19 := Lib.hid (H18.out.go hb19)
 clear hb19
 have Fr1_19 := Lib.hid (show TyRow w19 (.slice (some ⟨K18, 0, none⟩) 1 1) [tP] from by rw [← hw19, ← hK18]; exact TyRow.new1 (Fpt_18.out))
 clear Fbft_17 Frib_17 Fb8_17 Frec_17 Frect_17 Fp_17 Fpt_17 Fi_17 Fit_17 H17 Fbft_18 Frib_18 Fb8_18 Frec_18 Frect_18 Fp_18 Fpt_18 Fi_18 Fit_18 H18
 go_wp2_with fail
 refine ((show Calls Tryz.prog 15 #[_] w19 (fun e W' => e = .returned (.int .i64 3) ∧ Below w19.heap.size w19 W') from by have h := zekZ 1000000 [tP] _ w19 (of_decide_eq_true (by kernel_rfl)) (by omega) Fr1_19.out; rw [nP] at h; exact h)).mono ?_
 rintro e w20 ⟨rfl, hb⟩
 have Fbft_20 := Lib.hid (Fbft_19.out.below hb)
 have Frib_20 := Lib.hid (Frib_19.out.below hb)
 have Fb8_20 := Lib.hid (Fb8_19.out.trans (hb.mono Fb8_19.out.size))
 have Frec_20 := Lib.hid ((hb.block _ (zaZ Frec_19.out)).trans Frec_19.out)
 have Frect_20 := Lib.hid (IsTy.below hb _ _ Frect_19.out)
 have Fp_20 := Lib.hid ((hb.block _ (zaZ Fp_19.out)).trans Fp_19.out)
 have Fpt_20 := Lib.hid (IsTy.below hb _ _ Fpt_19.out)
 have Fi_20 := Lib.hid ((hb.block _ (zaZ Fi_19.out)).trans Fi_19.out)
 have Fit_20 := Lib.hid (IsTy.below hb _ _ Fit_19.out)
 have Fr1_20 := Lib.hid (Fr1_19.out.below hb)
 have H20 := Lib.hid (H19.out.go hb)
 clear hb
 clear xp0_18 xp1_18 xp2_18 xp3_18 xp4_18 xlp_18 hl19
 clear Fr1_20
 obtain ⟨xi0_20, xi1_20, xi2_20, xi3_20, xi4_20⟩ := zcZ Fi_20.out
 have xli_20 := zaZ Fi_20.out
 obtain ⟨w21, hw21⟩ : ∃ X, w20.alloc (.cells #[.int .i64 8, .string ⟨#[]⟩, .slice (some ⟨K9, 0, none⟩) 1 1, .slice none 0 0, .slice (some ⟨K14, 0, none⟩) 1 1] 26) = X := ⟨_, rfl⟩
 obtain ⟨K20, hK20⟩ : ∃ K, w20.heap.size = K := ⟨_, rfl⟩
 have hb21 : Below w20.heap.size w20 w21 := by rw [← hw21]; exact zdZ (World.grownBy_alloc w20 _ none)
 have hl21 : K20 < w21.heap.size := by rw [← hw21, ← hK20]; simp
 have Fbft_21 := Lib.hid (Fbft_20.out.below hb21)
 have Frib_21 := Lib.hid (Frib_20.out.below hb21)
 have Fb8_21 := Lib.hid (Fb8_20.out.trans (hb21.mono Fb8_20.out.size))
 have Frec_21 := Lib.hid ((hb21.block _ (zaZ Frec_20.out)).trans Frec_20.out)
 have Frect_21 := Lib.hid (IsTy.below hb21 _ _ Frect_20.out)
 have Fp_21 := Lib.hid ((hb21.block _ (zaZ Fp_20.out)).trans Fp_20.out)
 have Fpt_21 := Lib.hid (IsTy.below hb21 _ _ Fpt_20.out)
 have Fi_21 := Lib.hid ((hb21.block _ (zaZ Fi_20.out)).trans Fi_20.out)
 have Fit_21 := Lib.hid (IsTy.below hb21 _ _ Fit_20.out)
 have H21 := Lib.hid (H20.out.go hb21)
 clear hb21
 have Fr1_21 := Lib.hid (show TyRow w21 (.slice (some ⟨K20, 0, none⟩) 1 1) [tIf] from by rw [← hw21, ← hK20]; exact TyRow.new1 (Fit_20.out))
 clear Fbft_19 Frib_19 Fb8_19 Frec_19 Frect_19 Fp_19 Fpt_19 Fi_19 Fit_19 Fr1_19 H19 Fbft_20 Frib_20 Fb8_20 Frec_20 Frect_20 Fp_20 Fpt_20 Fi_20 Fit_20 H20
 go_wp2_with fail
 refine ((show Calls Tryz.prog 15 #[_] w21 (fun e W' => e = .returned (.int .i64 3) ∧ Below w21.heap.size w21 W') from by have h := zekZ 1000000 [tIf] _ w21 (of_decide_eq_true (by kernel_rfl)) (by omega) Fr1_21.out; rw [nIf] at h; exact h)).mono ?_
 rintro e w22 ⟨rfl, hb⟩
 have Fbft_22 := Lib.hid (Fbft_21.out.below hb)
 have Frib_22 := Lib.hid (Frib_21.out.below hb)
 have Fb8_22 := Lib.hid (Fb8_21.out.trans (hb.mono Fb8_21.out.size))
 have Frec_22 := Lib.hid ((hb.block _ (zaZ Frec_21.out)).trans Frec_21.out)
 have Frect_22 := Lib.hid (IsTy.below hb _ _ Frect_21.out)
 have Fp_22 := Lib.hid ((hb.block _ (zaZ Fp_21.out)).trans Fp_21.out)
 have Fpt_22 := Lib.hid (IsTy.below hb _ _ Fpt_21.out)
 have Fi_22 := Lib.hid ((hb.block _ (zaZ Fi_21.out)).trans Fi_21.out)
 have Fit_22 := Lib.hid (IsTy.below hb _ _ Fit_21.out)
 have Fr1_22 := Lib.hid (Fr1_21.out.below hb)
 have H22 := Lib.hid (H21.out.go hb)
 clear hb
 clear xi0_20 xi1_20 xi2_20 xi3_20 xi4_20 xli_20 hl21
 clear Fr1_22
 obtain ⟨xp0_22, xp1_22, xp2_22, xp3_22, xp4_22⟩ := zcZ Fp_22.out
 have xlp_22 := zaZ Fp_22.out
 obtain ⟨xi0_22, xi1_22, xi2_22, xi3_22, xi4_22⟩ := zcZ Fi_22.out
 have xli_22 := zaZ Fi_22.out
 obtain ⟨w23, hw23⟩ : ∃ X, w22.alloc (.cells #[.int .i64 5, .string ⟨#[]⟩, .slice none 0 0, .slice none 0 0, .slice (some ⟨K6, 0, none⟩) 1 1, .int .i64 8, .string ⟨#[]⟩, .slice (some ⟨K9, 0, none⟩) 1 1, .slice none 0 0, .slice (some ⟨K14, 0, none⟩) 1 1] 26) = X := ⟨_, rfl⟩
 obtain ⟨K22, hK22⟩ : ∃ K, w22.heap.size = K := ⟨_, rfl⟩
 have hb23 : Below w22.heap.size w22 w23 := by rw [← hw23]; exact zdZ (World.grownBy_alloc w22 _ none)
 have hl23 : K22 < w23.heap.size := by rw [← hw23, ← hK22]; simp
 have Fbft_23 := Lib.hid (Fbft_22.out.below hb23)
 have Frib_23 := Lib.hid (Frib_22.out.below hb23)
 have Fb8_23 := Lib.hid (Fb8_22.out.trans (hb23.mono Fb8_22.out.size))
 have Frec_23 := Lib.hid ((hb23.block _ (zaZ Frec_22.out)).trans Frec_22.out)
 have Frect_23 := Lib.hid (IsTy.below hb23 _ _ Frect_22.out)
 have Fp_23 := Lib.hid ((hb23.block _ (zaZ Fp_22.out)).trans Fp_22.out)
 have Fpt_23 := Lib.hid (IsTy.below hb23 _ _ Fpt_22.out)
 have Fi_23 := Lib.hid ((hb23.block _ (zaZ Fi_22.out)).trans Fi_22.out)
 have Fit_23 := Lib.hid (IsTy.below hb23 _ _ Fit_22.out)
 have H23 := Lib.hid (H22.out.go hb23)
 clear hb23
 have Fr1_23 := Lib.hid (show TyRow w23 (.slice (some ⟨K22, 0, none⟩) 2 2) [tP, tIf] from by rw [← hw23, ← hK22]; exact TyRow.new2 (Fpt_22.out) (Fit_22.out))
 clear Fbft_21 Frib_21 Fb8_21 Frec_21 Frect_21 Fp_21 Fpt_21 Fi_21 Fit_21 Fr1_21 H21 Fbft_22 Frib_22 Fb8_22 Frec_22 Frect_22 Fp_22 Fpt_22 Fi_22 Fit_22 H22
 go_wp2_with fail
 refine ((show Calls Tryz.prog 15 #[_] w23 (fun e W' => e = .returned (.int .i64 6) ∧ Below w23.heap.size w23 W') from by have h := zekZ 1000000 [tP, tIf] _ w23 (of_decide_eq_true (by kernel_rfl)) (by omega) Fr1_23.out; rw [nPI] at h; exact h)).mono ?_
 rintro e w24 ⟨rfl, hb⟩
 have Fbft_24 := Lib.hid (Fbft_23.out.below hb)
 have Frib_24 := Lib.hid (Frib_23.out.below hb)
 have Fb8_24 := Lib.hid (Fb8_23.out.trans (hb.mono Fb8_23.out.size))
 have Frec_24 := Lib.hid ((hb.block _ (zaZ Frec_23.out)).trans Frec_23.out)
 have Frect_24 := Lib.hid (IsTy.below hb _ _ Frect_23.out)
 have Fp_24 := Lib.hid ((hb.block _ (zaZ Fp_23.out)).trans Fp_23.out)
 have Fpt_24 := Lib.hid (IsTy.below hb _ _ Fpt_23.out)
 have Fi_24 := Lib.hid ((hb.block _ (zaZ Fi_23.out)).trans Fi_23.out)
 have Fit_24 := Lib.hid (IsTy.below hb _ _ Fit_23.out)
 have Fr1_24 := Lib.hid (Fr1_23.out.below hb)
 have H24 := Lib.hid (H23.out.go hb)
 clear hb
 clear xp0_22 xp1_22 xp2_22 xp3_22 xp4_22 xlp_22 xi0_22 xi1_22 xi2_22 xi3_22 xi4_22 xli_22 hl23
 clear Fr1_24
 obtain ⟨xp0_24, xp1_24, xp2_24, xp3_24, xp4_24⟩ := zcZ Fp_24.out
 have xlp_24 := zaZ Fp_24.out
 obtain ⟨w25, hw25⟩ : ∃ X, w24.alloc (.cells #[.int .i64 5, .string ⟨#[]⟩, .slice none 0 0, .slice none 0 0, .slice (some ⟨K6, 0, none⟩) 1 1] 26) = X := ⟨_, rfl⟩
 obtain ⟨K24, hK24⟩ : ∃ K, w24.heap.size = K := ⟨_, rfl⟩
 have hb25 : Below w24.heap.size w24 w25 := by rw [← hw25]; exact zdZ (World.grownBy_alloc w24 _ none)
 have hl25 : K24 < w25.heap.size := by rw [← hw25, ← hK24]; simp
 have Fbft_25 := Lib.hid (Fbft_24.out.below hb25)
 have Frib_25 := Lib.hid (Frib_24.out.below hb25)
 have Fb8_25 := Lib.hid (Fb8_24.out.trans (hb25.mono Fb8_24.out.size))
 have Frec_25 := Lib.hid ((hb25.block _ (zaZ Frec_24.out)).trans Frec_24.out)
 have Frect_25 := Lib.hid (IsTy.below hb25 _ _ Frect_24.out)
 have Fp_25 := Lib.hid ((hb25.block _ (zaZ Fp_24.out)).trans Fp_24.out)
 have Fpt_25 := Lib.hid (IsTy.below hb25 _ _ Fpt_24.out)
 have Fi_25 := Lib.hid ((hb25.block _ (zaZ Fi_24.out)).trans Fi_24.out)
 have Fit_25 := Lib.hid (IsTy.below hb25 _ _ Fit_24.out)
 have H25 := Lib.hid (H24.out.go hb25)
 clear hb25
 have Fr1_25 := Lib.hid (show TyRow w25 (.slice (some ⟨K24, 0, none⟩) 1 1) [tP] from by rw [← hw25, ← hK24]; exact TyRow.new1 (Fpt_24.out))
 clear Fbft_23 Frib_23 Fb8_23 Frec_23 Frect_23 Fp_23 Fpt_23 Fi_23 Fit_23 Fr1_23 H23 Fbft_24 Frib_24 Fb8_24 Frec_24 Frect_24 Fp_24 Fpt_24 Fi_24 Fit_24 H24
 go_wp2_with fail
 refine ((show Calls Tryz.prog 17 #[_] w25 (fun e W' => ∃ A, e = .returned (.slice A 1 1) ∧ StrRow W' (.slice A 1 1) [[66]] ∧ Below w25.heap.size w25 W') from by have h := zlyZ [tP] _ w25 (of_decide_eq_true (by kernel_rfl)) Fr1_25.out; rw [mP] at h; exact h)).mono ?_
 rintro e w26 ⟨A1, rfl, hr1, hb⟩
 have Fbft_26 := Lib.hid (Fbft_25.out.below hb)
 have Frib_26 := Lib.hid (Frib_25.out.below hb)
 have Fb8_26 := Lib.hid (Fb8_25.out.trans (hb.mono Fb8_25.out.size))
 have Frec_26 := Lib.hid ((hb.block _ (zaZ Frec_25.out)).trans Frec_25.out)
 have Frect_26 := Lib.hid (IsTy.below hb _ _ Frect_25.out)
 have Fp_26 := Lib.hid ((hb.block _ (zaZ Fp_25.out)).trans Fp_25.out)
 have Fpt_26 := Lib.hid (IsTy.below hb _ _ Fpt_25.out)
 have Fi_26 := Lib.hid ((hb.block _ (zaZ Fi_25.out)).trans Fi_25.out)
 have Fit_26 := Lib.hid (IsTy.below hb _ _ Fit_25.out)
 have Fr1_26 := Lib.hid (Fr1_25.out.below hb)
 have H26 := Lib.hid (H25.out.go hb)
 clear hb
 clear xp0_24 xp1_24 xp2_24 xp3_24 xp4_24 xlp_24 hl25
 have Fnm_26 := Lib.hid (show StrRow w26 (.slice A1 1 1) [[66]] from hr1)
 clear hr1
 clear Fr1_26
 obtain ⟨w27, hw27⟩ : ∃ X, w26.alloc (.cells #[.string ⟨#[66]⟩] 9) = X := ⟨_, rfl⟩
 obtain ⟨K26, hK26⟩ : ∃ K, w26.heap.size = K := ⟨_, rfl⟩
 have hb27 : Below w26.heap.size w26 w27 := by rw [← hw27]; exact zdZ (World.grownBy_alloc w26 _ none)
 have hl27 : K26 < w27.heap.size := by rw [← hw27, ← hK26]; simp
 have Fbft_27 := Lib.hid (Fbft_26.out.below hb27)
 have Frib_27 := Lib.hid (Frib_26.out.below hb27)
 have Fb8_27 := Lib.hid (Fb8_26.out.trans (hb27.mono Fb8_26.out.size))
 have Frec_27 := Lib.hid ((hb27.block _ (zaZ Frec_26.out)).trans Frec_26.out)
 have Frect_27 := Lib.hid (IsTy.below hb27 _ _ Frect_26.out)
 have Fp_27 := Lib.hid ((hb27.block _ (zaZ Fp_26.out)).trans Fp_26.out)
 have Fpt_27 := Lib.hid (IsTy.below hb27 _ _ Fpt_26.out)
 have Fi_27 := Lib.hid ((hb27.block _ (zaZ Fi_26.out)).trans Fi_26.out)
 have Fit_27 := Lib.hid (IsTy.below hb27 _ _ Fit_26.out)
 have Fnm_27 := Lib.hid (Fnm_26.out.below hb27)
 have H27 := Lib.hid (H26.out.go hb27)
 clear hb27
 have Fsb_27 := Lib.hid (show StrRow w27 (.slice (some ⟨K26, 0, none⟩) 1 1) [[66]] from by rw [← hw27, ← hK26]; exact StrRow.new w26 [[66]])
 clear Fbft_25 Frib_25 Fb8_25 Frec_25 Frect_25 Fp_25 Fpt_25 Fi_25 Fit_25 Fr1_25 H25 Fbft_26 Frib_26 Fb8_26 Frec_26 Frect_26 Fp_26 Fpt_26 Fi_26 Fit_26 Fnm_26 H26
 go_wp2_with fail
 refine ((show Calls Tryz.prog 16 #[_, _] w27 (fun e W' => e = .returned (.bool true) ∧ Below w27.heap.size w27 W') from by have h := ziqZ [[66]] [[66]] _ _ w27 Fnm_27.out Fsb_27.out (by simp) (by simp); simpa using h)).mono ?_
 rintro e w28 ⟨rfl, hb⟩
 have Fbft_28 := Lib.hid (Fbft_27.out.below hb)
 have Frib_28 := Lib.hid (Frib_27.out.below hb)
 have Fb8_28 := Lib.hid (Fb8_27.out.trans (hb.mono Fb8_27.out.size))
 have Frec_28 := Lib.hid ((hb.block _ (zaZ Frec_27.out)).trans Frec_27.out)
 have Frect_28 := Lib.hid (IsTy.below hb _ _ Frect_27.out)
 have Fp_28 := Lib.hid ((hb.block _ (zaZ Fp_27.out)).trans Fp_27.out)
 have Fpt_28 := Lib.hid (IsTy.below hb _ _ Fpt_27.out)
 have Fi_28 := Lib.hid ((hb.block _ (zaZ Fi_27.out)).trans Fi_27.out)
 have Fit_28 := Lib.hid (IsTy.below hb _ _ Fit_27.out)
 have Fnm_28 := Lib.hid (Fnm_27.out.below hb)
 have Fsb_28 := Lib.hid (Fsb_27.out.below hb)
 have H28 := Lib.hid (H27.out.go hb)
 clear hb
 clear hl27
 clear Fnm_28
 clear Fsb_28
 obtain ⟨xp0_28, xp1_28, xp2_28, xp3_28, xp4_28⟩ := zcZ Fp_28.out
 have xlp_28 := zaZ Fp_28.out
 obtain ⟨w29, hw29⟩ : ∃ X, w28.alloc (.cells #[.int .i64 5, .string ⟨#[]⟩, .slice none 0 0, .slice none 0 0, .slice (some ⟨K6, 0, none⟩) 1 1] 26) = X := ⟨_, rfl⟩
 obtain ⟨K28, hK28⟩ : ∃ K, w28.heap.size = K := ⟨_, rfl⟩
 have hb29 : Below w28.heap.size w28 w29 := by rw [← hw29]; exact zdZ (World.grownBy_alloc w28 _ none)
 have hl29 : K28 < w29.heap.size := by rw [← hw29, ← hK28]; simp
 have Fbft_29 := Lib.hid (Fbft_28.out.below hb29)
 have Frib_29 := Lib.hid (Frib_28.out.below hb29)
 have Fb8_29 := Lib.hid (Fb8_28.out.trans (hb29.mono Fb8_28.out.size))
 have Frec_29 := Lib.hid ((hb29.block _ (zaZ Frec_28.out)).trans Frec_28.out)
 have Frect_29 := Lib.hid (IsTy.below hb29 _ _ Frect_28.out)
 have Fp_29 := Lib.hid ((hb29.block _ (zaZ Fp_28.out)).trans Fp_28.out)
 have Fpt_29 := Lib.hid (IsTy.below hb29 _ _ Fpt_28.out)
 have Fi_29 := Lib.hid ((hb29.block _ (zaZ Fi_28.out)).trans Fi_28.out)
 have Fit_29 := Lib.hid (IsTy.below hb29 _ _ Fit_28.out)
 have H29 := Lib.hid (H28.out.go hb29)
 clear hb29
 have Fr1_29 := Lib.hid (show TyRow w29 (.slice (some ⟨K28, 0, none⟩) 1 1) [tP] from by rw [← hw29, ← hK28]; exact TyRow.new1 (Fpt_28.out))
 clear Fbft_27 Frib_27 Fb8_27 Frec_27 Frect_27 Fp_27 Fpt_27 Fi_27 Fit_27 Fnm_27 Fsb_27 H27 Fbft_28 Frib_28 Fb8_28 Frec_28 Frect_28 Fp_28 Fpt_28 Fi_28 Fit_28 H28
 go_wp2_with fail
 refine ((show Calls Tryz.prog 18 #[_] w29 (fun e W' => e = .returned (.int .i64 3) ∧ Below w29.heap.size w29 W') from by have h := zhdZ 1000000 [tP] _ w29 (of_decide_eq_true (by kernel_rfl)) (by omega) Fr1_29.out; rw [dP] at h; exact h)).mono ?_
 rintro e w30 ⟨rfl, hb⟩
 have Fbft_30 := Lib.hid (Fbft_29.out.below hb)
 have Frib_30 := Lib.hid (Frib_29.out.below hb)
 have Fb8_30 := Lib.hid (Fb8_29.out.trans (hb.mono Fb8_29.out.size))
 have Frec_30 := Lib.hid ((hb.block _ (zaZ Frec_29.out)).trans Frec_29.out)
 have Frect_30 := Lib.hid (IsTy.below hb _ _ Frect_29.out)
 have Fp_30 := Lib.hid ((hb.block _ (zaZ Fp_29.out)).trans Fp_29.out)
 have Fpt_30 := Lib.hid (IsTy.below hb _ _ Fpt_29.out)
 have Fi_30 := Lib.hid ((hb.block _ (zaZ Fi_29.out)).trans Fi_29.out)
 have Fit_30 := Lib.hid (IsTy.below hb _ _ Fit_29.out)
 have Fr1_30 := Lib.hid (Fr1_29.out.below hb)
 have H30 := Lib.hid (H29.out.go hb)
 clear hb
 clear xp0_28 xp1_28 xp2_28 xp3_28 xp4_28 xlp_28 hl29
 clear Fr1_30
 clear Fbft_29 Frib_29 Fb8_29 Frec_29 Frect_29 Fp_29 Fpt_29 Fi_29 Fit_29 Fr1_29 H29
 go_wp2_with fail
 refine ((show Calls Tryz.prog 18 #[_] w30 (fun e W' => e = .returned (.int .i64 0) ∧ Below w30.heap.size w30 W') from by have h := zhdZ 1000000 [] _ w30 (by simp [Sx.sizeL]) (by omega) (TyRow.nil w30 none 0); rw [show Sx.depthL [] = 0 from rfl] at h; exact h)).mono ?_
 rintro e w31 ⟨rfl, hb⟩
 have Fbft_31 := Lib.hid (Fbft_30.out.below hb)
 have Frib_31 := Lib.hid (Frib_30.out.below hb)
 have Fb8_31 := Lib.hid (Fb8_30.out.trans (hb.mono Fb8_30.out.size))
 have Frec_31 := Lib.hid ((hb.block _ (zaZ Frec_30.out)).trans Frec_30.out)
 have Frect_31 := Lib.hid (IsTy.below hb _ _ Frect_30.out)
 have Fp_31 := Lib.hid ((hb.block _ (zaZ Fp_30.out)).trans Fp_30.out)
 have Fpt_31 := Lib.hid (IsTy.below hb _ _ Fpt_30.out)
 have Fi_31 := Lib.hid ((hb.block _ (zaZ Fi_30.out)).trans Fi_30.out)
 have Fit_31 := Lib.hid (IsTy.below hb _ _ Fit_30.out)
 have H31 := Lib.hid (H30.out.go hb)
 clear hb
 clear Fit_31
 clear Fi_31
 clear Fpt_31
 clear Fp_31
 clear Fbft_30 Frib_30 Fb8_30 Frec_30 Frect_30 Fp_30 Fpt_30 Fi_30 Fit_30 H30
 go_wp2_with fail
 refine (zbrZ ⟨#[120]⟩ w31).mono ?_
 rintro e w32 ⟨rfl, hb⟩
 have Fbft_32 := Lib.hid (Fbft_31.out.below hb)
 have Frib_32 := Lib.hid (Frib_31.out.below hb)
 have Fb8_32 := Lib.hid (Fb8_31.out.trans (hb.mono Fb8_31.out.size))
 have Frec_32 := Lib.hid ((hb.block _ (zaZ Frec_31.out)).trans Frec_31.out)
 have Frect_32 := Lib.hid (IsTy.below hb _ _ Frect_31.out)
 have H32 := Lib.hid (H31.out.go hb)
 clear hb
 obtain ⟨w33, hw33⟩ : ∃ X, w32.alloc (.cells #[.int .i64 0, .int .i64 4, .int .i64 0, .string ⟨#[120]⟩, .slice none 0 0, .slice none 0 0, .slice none 0 0] 39) = X := ⟨_, rfl⟩
 obtain ⟨K32, hK32⟩ : ∃ K, w32.heap.size = K := ⟨_, rfl⟩
 have hb33 : Below w32.heap.size w32 w33 := by rw [← hw33]; exact zdZ (World.grownBy_alloc w32 _ none)
 have hl33 : K32 < w33.heap.size := by rw [← hw33, ← hK32]; simp
 have Fbft_33 := Lib.hid (Fbft_32.out.below hb33)
 have Frib_33 := Lib.hid (Frib_32.out.below hb33)
 have Fb8_33 := Lib.hid (Fb8_32.out.trans (hb33.mono Fb8_32.out.size))
 have Frec_33 := Lib.hid ((hb33.block _ (zaZ Frec_32.out)).trans Frec_32.out)
 have Frect_33 := Lib.hid (IsTy.below hb33 _ _ Frect_32.out)
 have H33 := Lib.hid (H32.out.go hb33)
 clear hb33
 have Frx_33 := Lib.hid (show ExRow w33 (.slice (some ⟨K32, 0, none⟩) 1 1) [xV [120]] from by rw [← hw33, ← hK32]; exact ExRow.new1 (isXV _ [120]))
 obtain ⟨w34, hw34⟩ : ∃ X, w33.alloc (.cells #[.int .i64 0, .int .i64 9, .int .i64 0, .string ⟨#[97]⟩, .slice none 0 0, .slice none 0 0, .slice (some ⟨K32, 0, none⟩) 1 1] 39) = X := ⟨_, rfl⟩
 obtain ⟨K33, hK33⟩ : ∃ K, w33.heap.size = K := ⟨_, rfl⟩
 have hb34 : Below w33.heap.size w33 w34 := by rw [← hw34]; exact zdZ (World.grownBy_alloc w33 _ none)
 have hl34 : K33 < w34.heap.size := by rw [← hw34, ← hK33]; simp
 have Fbft_34 := Lib.hid (Fbft_33.out.below hb34)
 have Frib_34 := Lib.hid (Frib_33.out.below hb34)
 have Fb8_34 := Lib.hid (Fb8_33.out.trans (hb34.mono Fb8_33.out.size))
 have Frec_34 := Lib.hid ((hb34.block _ (zaZ Frec_33.out)).trans Frec_33.out)
 have Frect_34 := Lib.hid (IsTy.below hb34 _ _ Frect_33.out)
 have Frx_34 := Lib.hid (Frx_33.out.below hb34)
 have H34 := Lib.hid (H33.out.go hb34)
 clear hb34
 have Ffi_34 := Lib.hid (show w34.heap[K33]? = some (.cells #[.int .i64 0, .int .i64 9, .int .i64 0, .string ⟨#[97]⟩, .slice none 0 0, .slice none 0 0, .slice (some ⟨K32, 0, none⟩) 1 1] 39 (0, 0)) by rw [← hw34, ← hK33]; exact heap_alloc_new w33 _)
 obtain ⟨xfi0_34, xfi1_34, xfi2_34, xfi3_34, xfi4_34, xfi5_34, xfi6_34⟩ := zbZ Ffi_34.out
 have xlfi_34 := zaZ Ffi_34.out
 obtain ⟨w35, hw35⟩ : ∃ X, w34.alloc (.cells #[.int .i64 0, .int .i64 10, .int .i64 0, .string ⟨#[97]⟩, .slice none 0 0, .slice none 0 0, .slice (some ⟨K32, 0, none⟩) 1 1] 39) = X := ⟨_, rfl⟩
 obtain ⟨K34, hK34⟩ : ∃ K, w34.heap.size = K := ⟨_, rfl⟩
 have hb35 : Below w34.heap.size w34 w35 := by rw [← hw35]; exact zdZ (World.grownBy_alloc w34 _ none)
 have hl35 : K34 < w35.heap.size := by rw [← hw35, ← hK34]; simp
 have Fbft_35 := Lib.hid (Fbft_34.out.below hb35)
 have Frib_35 := Lib.hid (Frib_34.out.below hb35)
 have Fb8_35 := Lib.hid (Fb8_34.out.trans (hb35.mono Fb8_34.out.size))
 have Frec_35 := Lib.hid ((hb35.block _ (zaZ Frec_34.out)).trans Frec_34.out)
 have Frect_35 := Lib.hid (IsTy.below hb35 _ _ Frect_34.out)
 have Frx_35 := Lib.hid (Frx_34.out.below hb35)
 have Ffi_35 := Lib.hid ((hb35.block _ (zaZ Ffi_34.out)).trans Ffi_34.out)
 have H35 := Lib.hid (H34.out.go hb35)
 clear hb35
 have Fca_35 := Lib.hid (show w35.heap[K34]? = some (.cells #[.int .i64 0, .int .i64 10, .int .i64 0, .string ⟨#[97]⟩, .slice none 0 0, .slice none 0 0, .slice (some ⟨K32, 0, none⟩) 1 1] 39 (0, 0)) by rw [← hw35, ← hK34]; exact heap_alloc_new w34 _)
 have Ffix_35 := Lib.hid (show IsEx w35 (.agg #[.int .i64 0, .int .i64 9, .int .i64 0, .string ⟨#[97]⟩, .slice none 0 0, .slice none 0 0, .slice (some ⟨K32, 0, none⟩) 1 1]) (xOne 9 [97] (xV [120])) from IsEx.made (s := [97]) (TyRow.nil ..) (StrRow.nil ..) Frx_35.out (by omega) (by omega))
 have Fcax_35 := Lib.hid (show IsEx w35 (.agg #[.int .i64 0, .int .i64 10, .int .i64 0, .string ⟨#[97]⟩, .slice none 0 0, .slice none 0 0, .slice (some ⟨K32, 0, none⟩) 1 1]) (xOne 10 [97] (xV [120])) from IsEx.made (s := [97]) (TyRow.nil ..) (StrRow.nil ..) Frx_35.out (by omega) (by omega))
 clear Fbft_31 Frib_31 Fb8_31 Frec_31 Frect_31 H31 Fbft_32 Frib_32 Fb8_32 Frec_32 Frect_32 H32 Fbft_33 Frib_33 Fb8_33 Frec_33 Frect_33 Frx_33 H33 Fbft_34 Frib_34 Fb8_34 Frec_34 Frect_34 Frx_34 Ffi_34 H34
 go_wp2_with fail
 refine (zbrZ ⟨#[120]⟩ w35).mono ?_
 rintro e w36 ⟨rfl, hb⟩
 have Fbft_36 := Lib.hid (Fbft_35.out.below hb)
 have Frib_36 := Lib.hid (Frib_35.out.below hb)
 have Fb8_36 := Lib.hid (Fb8_35.out.trans (hb.mono Fb8_35.out.size))
 have Frec_36 := Lib.hid ((hb.block _ (zaZ Frec_35.out)).trans Frec_35.out)
 have Frect_36 := Lib.hid (IsTy.below hb _ _ Frect_35.out)
 have Frx_36 := Lib.hid (Frx_35.out.below hb)
 have Ffi_36 := Lib.hid ((hb.block _ (zaZ Ffi_35.out)).trans Ffi_35.out)
 have Fca_36 := Lib.hid ((hb.block _ (zaZ Fca_35.out)).trans Fca_35.out)
 have Ffix_36 := Lib.hid (IsEx.below hb _ _ Ffix_35.out)
 have Fcax_36 := Lib.hid (IsEx.below hb _ _ Fcax_35.out)
 have H36 := Lib.hid (H35.out.go hb)
 clear hb
 clear hl33 hl34 xfi0_34 xfi1_34 xfi2_34 xfi3_34 xfi4_34 xfi5_34 xfi6_34 xlfi_34 hl35
 obtain ⟨w37, hw37⟩ : ∃ X, w36.alloc (.cells #[.int .i64 0, .int .i64 4, .int .i64 0, .string ⟨#[120]⟩, .slice none 0 0, .slice none 0 0, .slice none 0 0] 39) = X := ⟨_, rfl⟩
 obtain ⟨K36, hK36⟩ : ∃ K, w36.heap.size = K := ⟨_, rfl⟩
 have hb37 : Below w36.heap.size w36 w37 := by rw [← hw37]; exact zdZ (World.grownBy_alloc w36 _ none)
 have hl37 : K36 < w37.heap.size := by rw [← hw37, ← hK36]; simp
 have Fbft_37 := Lib.hid (Fbft_36.out.below hb37)
 have Frib_37 := Lib.hid (Frib_36.out.below hb37)
 have Fb8_37 := Lib.hid (Fb8_36.out.trans (hb37.mono Fb8_36.out.size))
 have Frec_37 := Lib.hid ((hb37.block _ (zaZ Frec_36.out)).trans Frec_36.out)
 have Frect_37 := Lib.hid (IsTy.below hb37 _ _ Frect_36.out)
 have Frx_37 := Lib.hid (Frx_36.out.below hb37)
 have Ffi_37 := Lib.hid ((hb37.block _ (zaZ Ffi_36.out)).trans Ffi_36.out)
 have Fca_37 := Lib.hid ((hb37.block _ (zaZ Fca_36.out)).trans Fca_36.out)
 have Ffix_37 := Lib.hid (IsEx.below hb37 _ _ Ffix_36.out)
 have Fcax_37 := Lib.hid (IsEx.below hb37 _ _ Fcax_36.out)
 have H37 := Lib.hid (H36.out.go hb37)
 clear hb37
 have Fx_37 := Lib.hid (show w37.heap[K36]? = some (.cells #[.int .i64 0, .int .i64 4, .int .i64 0, .string ⟨#[120]⟩, .slice none 0 0, .slice none 0 0, .slice none 0 0] 39 (0, 0)) by rw [← hw37, ← hK36]; exact heap_alloc_new w36 _)
 have HWL := Lib.hid hw37
 clear hw37
 clear Fbft_35 Frib_35 Fb8_35 Frec_35 Frect_35 Frx_35 Ffi_35 Fca_35 Ffix_35 Fcax_35 H35 Fbft_36 Frib_36 Fb8_36 Frec_36 Frect_36 Frx_36 Ffi_36 Fca_36 Ffix_36 Fcax_36 H36
 go_wp2_with fail
 rw [HWL.out]
 clear HWL
 refine (zbrZ ⟨#[121]⟩ w37).mono ?_
 rintro e w38 ⟨rfl, hb⟩
 have Fbft_38 := Lib.hid (Fbft_37.out.below hb)
 have Frib_38 := Lib.hid (Frib_37.out.below hb)
 have Fb8_38 := Lib.hid (Fb8_37.out.trans (hb.mono Fb8_37.out.size))
 have Frec_38 := Lib.hid ((hb.block _ (zaZ Frec_37.out)).trans Frec_37.out)
 have Frect_38 := Lib.hid (IsTy.below hb _ _ Frect_37.out)
 have Frx_38 := Lib.hid (Frx_37.out.below hb)
 have Ffi_38 := Lib.hid ((hb.block _ (zaZ Ffi_37.out)).trans Ffi_37.out)
 have Fca_38 := Lib.hid ((hb.block _ (zaZ Fca_37.out)).trans Fca_37.out)
 have Ffix_38 := Lib.hid (IsEx.below hb _ _ Ffix_37.out)
 have Fcax_38 := Lib.hid (IsEx.below hb _ _ Fcax_37.out)
 have Fx_38 := Lib.hid ((hb.block _ (zaZ Fx_37.out)).trans Fx_37.out)
 have H38 := Lib.hid (H37.out.go hb)
 clear hb
 clear hl37
 obtain ⟨w39, hw39⟩ : ∃ X, w38.alloc (.cells #[.int .i64 0, .int .i64 4, .int .i64 0, .string ⟨#[121]⟩, .slice none 0 0, .slice none 0 0, .slice none 0 0] 39) = X := ⟨_, rfl⟩
 obtain ⟨K38, hK38⟩ : ∃ K, w38.heap.size = K := ⟨_, rfl⟩
 have hb39 : Below w38.heap.size w38 w39 := by rw [← hw39]; exact zdZ (World.grownBy_alloc w38 _ none)
 have hl39 : K38 < w39.heap.size := by rw [← hw39, ← hK38]; simp
 have Fbft_39 := Lib.hid (Fbft_38.out.below hb39)
 have Frib_39 := Lib.hid (Frib_38.out.below hb39)
 have Fb8_39 := Lib.hid (Fb8_38.out.trans (hb39.mono Fb8_38.out.size))
 have Frec_39 := Lib.hid ((hb39.block _ (zaZ Frec_38.out)).trans Frec_38.out)
 have Frect_39 := Lib.hid (IsTy.below hb39 _ _ Frect_38.out)
 have Frx_39 := Lib.hid (Frx_38.out.below hb39)
 have Ffi_39 := Lib.hid ((hb39.block _ (zaZ Ffi_38.out)).trans Ffi_38.out)
 have Fca_39 := Lib.hid ((hb39.block _ (zaZ Fca_38.out)).trans Fca_38.out)
 have Ffix_39 := Lib.hid (IsEx.below hb39 _ _ Ffix_38.out)
 have Fcax_39 := Lib.hid (IsEx.below hb39 _ _ Fcax_38.out)
 have Fx_39 := Lib.hid ((hb39.block _ (zaZ Fx_38.out)).trans Fx_38.out)
 have H39 := Lib.hid (H38.out.go hb39)
 clear hb39
 have Fy_39 := Lib.hid (show w39.heap[K38]? = some (.cells #[.int .i64 0, .int .i64 4, .int .i64 0, .string ⟨#[121]⟩, .slice none 0 0, .slice none 0 0, .slice none 0 0] 39 (0, 0)) by rw [← hw39, ← hK38]; exact heap_alloc_new w38 _)
 have HWL := Lib.hid hw39
 clear hw39
 clear Fbft_37 Frib_37 Fb8_37 Frec_37 Frect_37 Frx_37 Ffi_37 Fca_37 Ffix_37 Fcax_37 Fx_37 H37 Fbft_38 Frib_38 Fb8_38 Frec_38 Frect_38 Frx_38 Ffi_38 Fca_38 Ffix_38 Fcax_38 Fx_38 H38
 go_wp2_with fail
 rw [HWL.out]
 clear HWL
 refine (lawNum 1 w39).mono ?_
 rintro e w40 ⟨rfl, hb⟩
 have Fbft_40 := Lib.hid (Fbft_39.out.below hb)
 have Frib_40 := Lib.hid (Frib_39.out.below hb)
 have Fb8_40 := Lib.hid (Fb8_39.out.trans (hb.mono Fb8_39.out.size))
 have Frec_40 := Lib.hid ((hb.block _ (zaZ Frec_39.out)).trans Frec_39.out)
 have Frect_40 := Lib.hid (IsTy.below hb _ _ Frect_39.out)
 have Frx_40 := Lib.hid (Frx_39.out.below hb)
 have Ffi_40 := Lib.hid ((hb.block _ (zaZ Ffi_39.out)).trans Ffi_39.out)
 have Fca_40 := Lib.hid ((hb.block _ (zaZ Fca_39.out)).trans Fca_39.out)
 have Ffix_40 := Lib.hid (IsEx.below hb _ _ Ffix_39.out)
 have Fcax_40 := Lib.hid (IsEx.below hb _ _ Fcax_39.out)
 have Fx_40 := Lib.hid ((hb.block _ (zaZ Fx_39.out)).trans Fx_39.out)
 have Fy_40 := Lib.hid ((hb.block _ (zaZ Fy_39.out)).trans Fy_39.out)
 have H40 := Lib.hid (H39.out.go hb)
 clear hb
 clear hl39
 clear Fbft_39 Frib_39 Fb8_39 Frec_39 Frect_39 Frx_39 Ffi_39 Fca_39 Ffix_39 Fcax_39 Fx_39 Fy_39 H39
 go_wp2_with fail
 refine (lawNum 2 w40).mono ?_
 rintro e w41 ⟨rfl, hb⟩
 have Fbft_41 := Lib.hid (Fbft_40.out.below hb)
 have Frib_41 := Lib.hid (Frib_40.out.below hb)
 have Fb8_41 := Lib.hid (Fb8_40.out.trans (hb.mono Fb8_40.out.size))
 have Frec_41 := Lib.hid ((hb.block _ (zaZ Frec_40.out)).trans Frec_40.out)
 have Frect_41 := Lib.hid (IsTy.below hb _ _ Frect_40.out)
 have Frx_41 := Lib.hid (Frx_40.out.below hb)
 have Ffi_41 := Lib.hid ((hb.block _ (zaZ Ffi_40.out)).trans Ffi_40.out)
 have Fca_41 := Lib.hid ((hb.block _ (zaZ Fca_40.out)).trans Fca_40.out)
 have Ffix_41 := Lib.hid (IsEx.below hb _ _ Ffix_40.out)
 have Fcax_41 := Lib.hid (IsEx.below hb _ _ Fcax_40.out)
 have Fx_41 := Lib.hid ((hb.block _ (zaZ Fx_40.out)).trans Fx_40.out)
 have Fy_41 := Lib.hid ((hb.block _ (zaZ Fy_40.out)).trans Fy_40.out)
 have H41 := Lib.hid (H40.out.go hb)
 clear hb
 clear Fbft_40 Frib_40 Fb8_40 Frec_40 Frect_40 Frx_40 Ffi_40 Fca_40 Ffix_40 Fcax_40 Fx_40 Fy_40 H40
 go_wp2_with fail
 refine (lawTwo 16 (xN 1) (xN 2) _ _ w41 (isXN _ 1 (by omega) (by omega)) (isXN _ 2 (by omega) (by omega))).mono ?_
 rintro e w42 ⟨g1, rfl, hr, hb⟩
 have Fbft_42 := Lib.hid (Fbft_41.out.below hb)
 have Frib_42 := Lib.hid (Frib_41.out.below hb)
 have Fb8_42 := Lib.hid (Fb8_41.out.trans (hb.mono Fb8_41.out.size))
 have Frec_42 := Lib.hid ((hb.block _ (zaZ Frec_41.out)).trans Frec_41.out)
 have Frect_42 := Lib.hid (IsTy.below hb _ _ Frect_41.out)
 have Frx_42 := Lib.hid (Frx_41.out.below hb)
 have Ffi_42 := Lib.hid ((hb.block _ (zaZ Ffi_41.out)).trans Ffi_41.out)
 have Fca_42 := Lib.hid ((hb.block _ (zaZ Fca_41.out)).trans Fca_41.out)
 have Ffix_42 := Lib.hid (IsEx.below hb _ _ Ffix_41.out)
 have Fcax_42 := Lib.hid (IsEx.below hb _ _ Fcax_41.out)
 have Fx_42 := Lib.hid ((hb.block _ (zaZ Fx_41.out)).trans Fx_41.out)
 have Fy_42 := Lib.hid ((hb.block _ (zaZ Fy_41.out)).trans Fy_41.out)
 have H42 := Lib.hid (H41.out.go hb)
 clear hb
 have Ft1_42 := Lib.hid (show IsEx w42 (.agg #[.int .i64 0, .int .i64 16, .int .i64 0, .string ⟨#[]⟩, .slice none 0 0, .slice none 0 0, .slice (some ⟨g1, 0, none⟩) 2 2]) (xTwo 16 (xN 1) (xN 2)) from IsEx.made (s := []) (TyRow.nil ..) (StrRow.nil ..) hr (by omega) (by omega))
 clear hr
 clear Fbft_41 Frib_41 Fb8_41 Frec_41 Frect_41 Frx_41 Ffi_41 Fca_41 Ffix_41 Fcax_41 Fx_41 Fy_41 H41
 go_wp2_with fail
 refine (lawNum 3 w42).mono ?_
 rintro e w43 ⟨rfl, hb⟩
 have Fbft_43 := Lib.hid (Fbft_42.out.below hb)
 have Frib_43 := Lib.hid (Frib_42.out.below hb)
 have Fb8_43 := Lib.hid (Fb8_42.out.trans (hb.mono Fb8_42.out.size))
 have Frec_43 := Lib.hid ((hb.block _ (zaZ Frec_42.out)).trans Frec_42.out)
 have Frect_43 := Lib.hid (IsTy.below hb _ _ Frect_42.out)
 have Frx_43 := Lib.hid (Frx_42.out.below hb)
 have Ffi_43 := Lib.hid ((hb.block _ (zaZ Ffi_42.out)).trans Ffi_42.out)
 have Fca_43 := Lib.hid ((hb.block _ (zaZ Fca_42.out)).trans Fca_42.out)
 have Ffix_43 := Lib.hid (IsEx.below hb _ _ Ffix_42.out)
 have Fcax_43 := Lib.hid (IsEx.below hb _ _ Fcax_42.out)
 have Fx_43 := Lib.hid ((hb.block _ (zaZ Fx_42.out)).trans Fx_42.out)
 have Fy_43 := Lib.hid ((hb.block _ (zaZ Fy_42.out)).trans Fy_42.out)
 have Ft1_43 := Lib.hid (IsEx.below hb _ _ Ft1_42.out)
 have H43 := Lib.hid (H42.out.go hb)
 clear hb
 clear Fbft_42 Frib_42 Fb8_42 Frec_42 Frect_42 Frx_42 Ffi_42 Fca_42 Ffix_42 Fcax_42 Fx_42 Fy_42 Ft1_42 H42
 go_wp2_with fail
 refine (lawTwo 15 (xTwo 16 (xN 1) (xN 2)) (xN 3) _ _ w43 (Ft1_43.out) (isXN _ 3 (by omega) (by omega))).mono ?_
 rintro e w44 ⟨g2, rfl, hr, hb⟩
 have Fbft_44 := Lib.hid (Fbft_43.out.below hb)
 have Frib_44 := Lib.hid (Frib_43.out.below hb)
 have Fb8_44 := Lib.hid (Fb8_43.out.trans (hb.mono Fb8_43.out.size))
 have Frec_44 := Lib.hid ((hb.block _ (zaZ Frec_43.out)).trans Frec_43.out)
 have Frect_44 := Lib.hid (IsTy.below hb _ _ Frect_43.out)
 have Frx_44 := Lib.hid (Frx_43.out.below hb)
 have Ffi_44 := Lib.hid ((hb.block _ (zaZ Ffi_43.out)).trans Ffi_43.out)
 have Fca_44 := Lib.hid ((hb.block _ (zaZ Fca_43.out)).trans Fca_43.out)
 have Ffix_44 := Lib.hid (IsEx.below hb _ _ Ffix_43.out)
 have Fcax_44 := Lib.hid (IsEx.below hb _ _ Fcax_43.out)
 have Fx_44 := Lib.hid ((hb.block _ (zaZ Fx_43.out)).trans Fx_43.out)
 have Fy_44 := Lib.hid ((hb.block _ (zaZ Fy_43.out)).trans Fy_43.out)
 have Ft1_44 := Lib.hid (IsEx.below hb _ _ Ft1_43.out)
 have H44 := Lib.hid (H43.out.go hb)
 clear hb
 have Ft2_44 := Lib.hid (show IsEx w44 (.agg #[.int .i64 0, .int .i64 15, .int .i64 0, .string ⟨#[]⟩, .slice none 0 0, .slice none 0 0, .slice (some ⟨g2, 0, none⟩) 2 2]) (xTwo 15 (xTwo 16 (xN 1) (xN 2)) (xN 3)) from IsEx.made (s := []) (TyRow.nil ..) (StrRow.nil ..) hr (by omega) (by omega))
 clear hr
 clear Ft1_44
 clear Fbft_43 Frib_43 Fb8_43 Frec_43 Frect_43 Frx_43 Ffi_43 Fca_43 Ffix_43 Fcax_43 Fx_43 Fy_43 Ft1_43 H43
 go_wp2_with fail
 refine (lawTold _ [40, 32, 49, 32, 43, 32, 50, 32, 41, 32, 42, 32, 51] _ w44 H44.out.g.gs H44.out.n (Ft2_44.out) (of_decide_eq_true e1z) (of_decide_eq_true e1l) e1).mono ?_
 rintro e w45 ⟨rfl, hb⟩
 have Fbft_45 := Lib.hid (Fbft_44.out.below hb)
 have Frib_45 := Lib.hid (Frib_44.out.below hb)
 have Fb8_45 := Lib.hid (Fb8_44.out.trans (hb.mono Fb8_44.out.size))
 have Frec_45 := Lib.hid ((hb.block _ (zaZ Frec_44.out)).trans Frec_44.out)
 have Frect_45 := Lib.hid (IsTy.below hb _ _ Frect_44.out)
 have Frx_45 := Lib.hid (Frx_44.out.below hb)
 have Ffi_45 := Lib.hid ((hb.block _ (zaZ Ffi_44.out)).trans Ffi_44.out)
 have Fca_45 := Lib.hid ((hb.block _ (zaZ Fca_44.out)).trans Fca_44.out)
 have Ffix_45 := Lib.hid (IsEx.below hb _ _ Ffix_44.out)
 have Fcax_45 := Lib.hid (IsEx.below hb _ _ Fcax_44.out)
 have Fx_45 := Lib.hid ((hb.block _ (zaZ Fx_44.out)).trans Fx_44.out)
 have Fy_45 := Lib.hid ((hb.block _ (zaZ Fy_44.out)).trans Fy_44.out)
 have Ft2_45 := Lib.hid (IsEx.below hb _ _ Ft2_44.out)
 have H45 := Lib.hid (H44.out.go hb)
 clear hb
 clear Ft2_45
 clear Fbft_44 Frib_44 Fb8_44 Frec_44 Frect_44 Frx_44 Ffi_44 Fca_44 Ffix_44 Fcax_44 Fx_44 Fy_44 Ft2_44 H44
 go_wp2_with fail
 refine (lawNum 1 w45).mono ?_
 rintro e w46 ⟨rfl, hb⟩
 have Fbft_46 := Lib.hid (Fbft_45.out.below hb)
 have Frib_46 := Lib.hid (Frib_45.out.below hb)
 have Fb8_46 := Lib.hid (Fb8_45.out.trans (hb.mono Fb8_45.out.size))
 have Frec_46 := Lib.hid ((hb.block _ (zaZ Frec_45.out)).trans Frec_45.out)
 have Frect_46 := Lib.hid (IsTy.below hb _ _ Frect_45.out)
 have Frx_46 := Lib.hid (Frx_45.out.below hb)
 have Ffi_46 := Lib.hid ((hb.block _ (zaZ Ffi_45.out)).trans Ffi_45.out)
 have Fca_46 := Lib.hid ((hb.block _ (zaZ Fca_45.out)).trans Fca_45.out)
 have Ffix_46 := Lib.hid (IsEx.below hb _ _ Ffix_45.out)
 have Fcax_46 := Lib.hid (IsEx.below hb _ _ Fcax_45.out)
 have Fx_46 := Lib.hid ((hb.block _ (zaZ Fx_45.out)).trans Fx_45.out)
 have Fy_46 := Lib.hid ((hb.block _ (zaZ Fy_45.out)).trans Fy_45.out)
 have H46 := Lib.hid (H45.out.go hb)
 clear hb
 clear Fbft_45 Frib_45 Fb8_45 Frec_45 Frect_45 Frx_45 Ffi_45 Fca_45 Ffix_45 Fcax_45 Fx_45 Fy_45 H45
 go_wp2_with fail
 refine (lawNum 2 w46).mono ?_
 rintro e w47 ⟨rfl, hb⟩
 have Fbft_47 := Lib.hid (Fbft_46.out.below hb)
 have Frib_47 := Lib.hid (Frib_46.out.below hb)
 have Fb8_47 := Lib.hid (Fb8_46.out.trans (hb.mono Fb8_46.out.size))
 have Frec_47 := Lib.hid ((hb.block _ (zaZ Frec_46.out)).trans Frec_46.out)
 have Frect_47 := Lib.hid (IsTy.below hb _ _ Frect_46.out)
 have Frx_47 := Lib.hid (Frx_46.out.below hb)
 have Ffi_47 := Lib.hid ((hb.block _ (zaZ Ffi_46.out)).trans Ffi_46.out)
 have Fca_47 := Lib.hid ((hb.block _ (zaZ Fca_46.out)).trans Fca_46.out)
 have Ffix_47 := Lib.hid (IsEx.below hb _ _ Ffix_46.out)
 have Fcax_47 := Lib.hid (IsEx.below hb _ _ Fcax_46.out)
 have Fx_47 := Lib.hid ((hb.block _ (zaZ Fx_46.out)).trans Fx_46.out)
 have Fy_47 := Lib.hid ((hb.block _ (zaZ Fy_46.out)).trans Fy_46.out)
 have H47 := Lib.hid (H46.out.go hb)
 clear hb
 clear Fbft_46 Frib_46 Fb8_46 Frec_46 Frect_46 Frx_46 Ffi_46 Fca_46 Ffix_46 Fcax_46 Fx_46 Fy_46 H46
 go_wp2_with fail
 refine (lawNum 3 w47).mono ?_
 rintro e w48 ⟨rfl, hb⟩
 have Fbft_48 := Lib.hid (Fbft_47.out.below hb)
 have Frib_48 := Lib.hid (Frib_47.out.below hb)
 have Fb8_48 := Lib.hid (Fb8_47.out.trans (hb.mono Fb8_47.out.size))
 have Frec_48 := Lib.hid ((hb.block _ (zaZ Frec_47.out)).trans Frec_47.out)
 have Frect_48 := Lib.hid (IsTy.below hb _ _ Frect_47.out)
 have Frx_48 := Lib.hid (Frx_47.out.below hb)
 have Ffi_48 := Lib.hid ((hb.block _ (zaZ Ffi_47.out)).trans Ffi_47.out)
 have Fca_48 := Lib.hid ((hb.block _ (zaZ Fca_47.out)).trans Fca_47.out)
 have Ffix_48 := Lib.hid (IsEx.below hb _ _ Ffix_47.out)
 have Fcax_48 := Lib.hid (IsEx.below hb _ _ Fcax_47.out)
 have Fx_48 := Lib.hid ((hb.block _ (zaZ Fx_47.out)).trans Fx_47.out)
 have Fy_48 := Lib.hid ((hb.block _ (zaZ Fy_47.out)).trans Fy_47.out)
 have H48 := Lib.hid (H47.out.go hb)
 clear hb
 clear Fbft_47 Frib_47 Fb8_47 Frec_47 Frect_47 Frx_47 Ffi_47 Fca_47 Ffix_47 Fcax_47 Fx_47 Fy_47 H47
 go_wp2_with fail
 refine (lawTwo 15 (xN 2) (xN 3) _ _ w48 (isXN _ 2 (by omega) (by omega)) (isXN _ 3 (by omega) (by omega))).mono ?_
 rintro e w49 ⟨g3, rfl, hr, hb⟩
 have Fbft_49 := Lib.hid (Fbft_48.out.below hb)
 have Frib_49 := Lib.hid (Frib_48.out.below hb)
 have Fb8_49 := Lib.hid (Fb8_48.out.trans (hb.mono Fb8_48.out.size))
 have Frec_49 := Lib.hid ((hb.block _ (zaZ Frec_48.out)).trans Frec_48.out)
 have Frect_49 := Lib.hid (IsTy.below hb _ _ Frect_48.out)
 have Frx_49 := Lib.hid (Frx_48.out.below hb)
 have Ffi_49 := Lib.hid ((hb.block _ (zaZ Ffi_48.out)).trans Ffi_48.out)
 have Fca_49 := Lib.hid ((hb.block _ (zaZ Fca_48.out)).trans Fca_48.out)
 have Ffix_49 := Lib.hid (IsEx.below hb _ _ Ffix_48.out)
 have Fcax_49 := Lib.hid (IsEx.below hb _ _ Fcax_48.out)
 have Fx_49 := Lib.hid ((hb.block _ (zaZ Fx_48.out)).trans Fx_48.out)
 have Fy_49 := Lib.hid ((hb.block _ (zaZ Fy_48.out)).trans Fy_48.out)
 have H49 := Lib.hid (H48.out.go hb)
 clear hb
 have Ft3_49 := Lib.hid (show IsEx w49 (.agg #[.int .i64 0, .int .i64 15, .int .i64 0, .string ⟨#[]⟩, .slice none 0 0, .slice none 0 0, .slice (some ⟨g3, 0, none⟩) 2 2]) (xTwo 15 (xN 2) (xN 3)) from IsEx.made (s := []) (TyRow.nil ..) (StrRow.nil ..) hr (by omega) (by omega))
 clear hr
 clear Fbft_48 Frib_48 Fb8_48 Frec_48 Frect_48 Frx_48 Ffi_48 Fca_48 Ffix_48 Fcax_48 Fx_48 Fy_48 H48
 go_wp2_with fail
 refine (lawTwo 16 (xN 1) (xTwo 15 (xN 2) (xN 3)) _ _ w49 (isXN _ 1 (by omega) (by omega)) (Ft3_49.out)).mono ?_
 rintro e w50 ⟨g4, rfl, hr, hb⟩
 have Fbft_50 := Lib.hid (Fbft_49.out.below hb)
 have Frib_50 := Lib.hid (Frib_49.out.below hb)
 have Fb8_50 := Lib.hid (Fb8_49.out.trans (hb.mono Fb8_49.out.size))
 have Frec_50 := Lib.hid ((hb.block _ (zaZ Frec_49.out)).trans Frec_49.out)
 have Frect_50 := Lib.hid (IsTy.below hb _ _ Frect_49.out)
 have Frx_50 := Lib.hid (Frx_49.out.below hb)
 have Ffi_50 := Lib.hid ((hb.block _ (zaZ Ffi_49.out)).trans Ffi_49.out)
 have Fca_50 := Lib.hid ((hb.block _ (zaZ Fca_49.out)).trans Fca_49.out)
 have Ffix_50 := Lib.hid (IsEx.below hb _ _ Ffix_49.out)
 have Fcax_50 := Lib.hid (IsEx.below hb _ _ Fcax_49.out)
 have Fx_50 := Lib.hid ((hb.block _ (zaZ Fx_49.out)).trans Fx_49.out)
 have Fy_50 := Lib.hid ((hb.block _ (zaZ Fy_49.out)).trans Fy_49.out)
 have Ft3_50 := Lib.hid (IsEx.below hb _ _ Ft3_49.out)
 have H50 := Lib.hid (H49.out.go hb)
 clear hb
 have Ft4_50 := Lib.hid (show IsEx w50 (.agg #[.int .i64 0, .int .i64 16, .int .i64 0, .string ⟨#[]⟩, .slice none 0 0, .slice none 0 0, .slice (some ⟨g4, 0, none⟩) 2 2]) (xTwo 16 (xN 1) (xTwo 15 (xN 2) (xN 3))) from IsEx.made (s := []) (TyRow.nil ..) (StrRow.nil ..) hr (by omega) (by omega))
 clear hr
 clear Ft3_50
 clear Fbft_49 Frib_49 Fb8_49 Frec_49 Frect_49 Frx_49 Ffi_49 Fca_49 Ffix_49 Fcax_49 Fx_49 Fy_49 Ft3_49 H49
 go_wp2_with fail
 refine (lawTold _ [49, 32, 43, 32, 50, 32, 42, 32, 51] _ w50 H50.out.g.gs H50.out.n (Ft4_50.out) (of_decide_eq_true e2z) (of_decide_eq_true e2l) e2).mono ?_
 rintro e w51 ⟨rfl, hb⟩
 have Fbft_51 := Lib.hid (Fbft_50.out.below hb)
 have Frib_51 := Lib.hid (Frib_50.out.below hb)
 have Fb8_51 := Lib.hid (Fb8_50.out.trans (hb.mono Fb8_50.out.size))
 have Frec_51 := Lib.hid ((hb.block _ (zaZ Frec_50.out)).trans Frec_50.out)
 have Frect_51 := Lib.hid (IsTy.below hb _ _ Frect_50.out)
 have Frx_51 := Lib.hid (Frx_50.out.below hb)
 have Ffi_51 := Lib.hid ((hb.block _ (zaZ Ffi_50.out)).trans Ffi_50.out)
 have Fca_51 := Lib.hid ((hb.block _ (zaZ Fca_50.out)).trans Fca_50.out)
 have Ffix_51 := Lib.hid (IsEx.below hb _ _ Ffix_50.out)
 have Fcax_51 := Lib.hid (IsEx.below hb _ _ Fcax_50.out)
 have Fx_51 := Lib.hid ((hb.block _ (zaZ Fx_50.out)).trans Fx_50.out)
 have Fy_51 := Lib.hid ((hb.block _ (zaZ Fy_50.out)).trans Fy_50.out)
 have Ft4_51 := Lib.hid (IsEx.below hb _ _ Ft4_50.out)
 have H51 := Lib.hid (H50.out.go hb)
 clear hb
 clear Ft4_51
 clear Fbft_50 Frib_50 Fb8_50 Frec_50 Frect_50 Frx_50 Ffi_50 Fca_50 Ffix_50 Fcax_50 Fx_50 Fy_50 Ft4_50 H50
 go_wp2_with fail
 refine (lawNum 1 w51).mono ?_
 rintro e w52 ⟨rfl, hb⟩
 have Fbft_52 := Lib.hid (Fbft_51.out.below hb)
 have Frib_52 := Lib.hid (Frib_51.out.below hb)
 have Fb8_52 := Lib.hid (Fb8_51.out.trans (hb.mono Fb8_51.out.size))
 have Frec_52 := Lib.hid ((hb.block _ (zaZ Frec_51.out)).trans Frec_51.out)
 have Frect_52 := Lib.hid (IsTy.below hb _ _ Frect_51.out)
 have Frx_52 := Lib.hid (Frx_51.out.below hb)
 have Ffi_52 := Lib.hid ((hb.block _ (zaZ Ffi_51.out)).trans Ffi_51.out)
 have Fca_52 := Lib.hid ((hb.block _ (zaZ Fca_51.out)).trans Fca_51.out)
 have Ffix_52 := Lib.hid (IsEx.below hb _ _ Ffix_51.out)
 have Fcax_52 := Lib.hid (IsEx.below hb _ _ Fcax_51.out)
 have Fx_52 := Lib.hid ((hb.block _ (zaZ Fx_51.out)).trans Fx_51.out)
 have Fy_52 := Lib.hid ((hb.block _ (zaZ Fy_51.out)).trans Fy_51.out)
 have H52 := Lib.hid (H51.out.go hb)
 clear hb
 clear Fbft_51 Frib_51 Fb8_51 Frec_51 Frect_51 Frx_51 Ffi_51 Fca_51 Ffix_51 Fcax_51 Fx_51 Fy_51 H51
 go_wp2_with fail
 refine (lawNum 2 w52).mono ?_
 rintro e w53 ⟨rfl, hb⟩
 have Fbft_53 := Lib.hid (Fbft_52.out.below hb)
 have Frib_53 := Lib.hid (Frib_52.out.below hb)
 have Fb8_53 := Lib.hid (Fb8_52.out.trans (hb.mono Fb8_52.out.size))
 have Frec_53 := Lib.hid ((hb.block _ (zaZ Frec_52.out)).trans Frec_52.out)
 have Frect_53 := Lib.hid (IsTy.below hb _ _ Frect_52.out)
 have Frx_53 := Lib.hid (Frx_52.out.below hb)
 have Ffi_53 := Lib.hid ((hb.block _ (zaZ Ffi_52.out)).trans Ffi_52.out)
 have Fca_53 := Lib.hid ((hb.block _ (zaZ Fca_52.out)).trans Fca_52.out)
 have Ffix_53 := Lib.hid (IsEx.below hb _ _ Ffix_52.out)
 have Fcax_53 := Lib.hid (IsEx.below hb _ _ Fcax_52.out)
 have Fx_53 := Lib.hid ((hb.block _ (zaZ Fx_52.out)).trans Fx_52.out)
 have Fy_53 := Lib.hid ((hb.block _ (zaZ Fy_52.out)).trans Fy_52.out)
 have H53 := Lib.hid (H52.out.go hb)
 clear hb
 clear Fbft_52 Frib_52 Fb8_52 Frec_52 Frect_52 Frx_52 Ffi_52 Fca_52 Ffix_52 Fcax_52 Fx_52 Fy_52 H52
 go_wp2_with fail
 refine (lawNum 3 w53).mono ?_
 rintro e w54 ⟨rfl, hb⟩
 have Fbft_54 := Lib.hid (Fbft_53.out.below hb)
 have Frib_54 := Lib.hid (Frib_53.out.below hb)
 have Fb8_54 := Lib.hid (Fb8_53.out.trans (hb.mono Fb8_53.out.size))
 have Frec_54 := Lib.hid ((hb.block _ (zaZ Frec_53.out)).trans Frec_53.out)
 have Frect_54 := Lib.hid (IsTy.below hb _ _ Frect_53.out)
 have Frx_54 := Lib.hid (Frx_53.out.below hb)
 have Ffi_54 := Lib.hid ((hb.block _ (zaZ Ffi_53.out)).trans Ffi_53.out)
 have Fca_54 := Lib.hid ((hb.block _ (zaZ Fca_53.out)).trans Fca_53.out)
 have Ffix_54 := Lib.hid (IsEx.below hb _ _ Ffix_53.out)
 have Fcax_54 := Lib.hid (IsEx.below hb _ _ Fcax_53.out)
 have Fx_54 := Lib.hid ((hb.block _ (zaZ Fx_53.out)).trans Fx_53.out)
 have Fy_54 := Lib.hid ((hb.block _ (zaZ Fy_53.out)).trans Fy_53.out)
 have H54 := Lib.hid (H53.out.go hb)
 clear hb
 clear Fbft_53 Frib_53 Fb8_53 Frec_53 Frect_53 Frx_53 Ffi_53 Fca_53 Ffix_53 Fcax_53 Fx_53 Fy_53 H53
 go_wp2_with fail
 refine (lawTwo 17 (xN 2) (xN 3) _ _ w54 (isXN _ 2 (by omega) (by omega)) (isXN _ 3 (by omega) (by omega))).mono ?_
 rintro e w55 ⟨g5, rfl, hr, hb⟩
 have Fbft_55 := Lib.hid (Fbft_54.out.below hb)
 have Frib_55 := Lib.hid (Frib_54.out.below hb)
 have Fb8_55 := Lib.hid (Fb8_54.out.trans (hb.mono Fb8_54.out.size))
 have Frec_55 := Lib.hid ((hb.block _ (zaZ Frec_54.out)).trans Frec_54.out)
 have Frect_55 := Lib.hid (IsTy.below hb _ _ Frect_54.out)
 have Frx_55 := Lib.hid (Frx_54.out.below hb)
 have Ffi_55 := Lib.hid ((hb.block _ (zaZ Ffi_54.out)).trans Ffi_54.out)
 have Fca_55 := Lib.hid ((hb.block _ (zaZ Fca_54.out)).trans Fca_54.out)
 have Ffix_55 := Lib.hid (IsEx.below hb _ _ Ffix_54.out)
 have Fcax_55 := Lib.hid (IsEx.below hb _ _ Fcax_54.out)
 have Fx_55 := Lib.hid ((hb.block _ (zaZ Fx_54.out)).trans Fx_54.out)
 have Fy_55 := Lib.hid ((hb.block _ (zaZ Fy_54.out)).trans Fy_54.out)
 have H55 := Lib.hid (H54.out.go hb)
 clear hb
 have Ft5_55 := Lib.hid (show IsEx w55 (.agg #[.int .i64 0, .int .i64 17, .int .i64 0, .string ⟨#[]⟩, .slice none 0 0, .slice none 0 0, .slice (some ⟨g5, 0, none⟩) 2 2]) (xTwo 17 (xN 2) (xN 3)) from IsEx.made (s := []) (TyRow.nil ..) (StrRow.nil ..) hr (by omega) (by omega))
 clear hr
 clear Fbft_54 Frib_54 Fb8_54 Frec_54 Frect_54 Frx_54 Ffi_54 Fca_54 Ffix_54 Fcax_54 Fx_54 Fy_54 H54
 go_wp2_with fail
 refine (lawTwo 17 (xN 1) (xTwo 17 (xN 2) (xN 3)) _ _ w55 (isXN _ 1 (by omega) (by omega)) (Ft5_55.out)).mono ?_
 rintro e w56 ⟨g6, rfl, hr, hb⟩
 have Fbft_56 := Lib.hid (Fbft_55.out.below hb)
 have Frib_56 := Lib.hid (Frib_55.out.below hb)
 have Fb8_56 := Lib.hid (Fb8_55.out.trans (hb.mono Fb8_55.out.size))
 have Frec_56 := Lib.hid ((hb.block _ (zaZ Frec_55.out)).trans Frec_55.out)
 have Frect_56 := Lib.hid (IsTy.below hb _ _ Frect_55.out)
 have Frx_56 := Lib.hid (Frx_55.out.below hb)
 have Ffi_56 := Lib.hid ((hb.block _ (zaZ Ffi_55.out)).trans Ffi_55.out)
 have Fca_56 := Lib.hid ((hb.block _ (zaZ Fca_55.out)).trans Fca_55.out)
 have Ffix_56 := Lib.hid (IsEx.below hb _ _ Ffix_55.out)
 have Fcax_56 := Lib.hid (IsEx.below hb _ _ Fcax_55.out)
 have Fx_56 := Lib.hid ((hb.block _ (zaZ Fx_55.out)).trans Fx_55.out)
 have Fy_56 := Lib.hid ((hb.block _ (zaZ Fy_55.out)).trans Fy_55.out)
 have Ft5_56 := Lib.hid (IsEx.below hb _ _ Ft5_55.out)
 have H56 := Lib.hid (H55.out.go hb)
 clear hb
 have Ft6_56 := Lib.hid (show IsEx w56 (.agg #[.int .i64 0, .int .i64 17, .int .i64 0, .string ⟨#[]⟩, .slice none 0 0, .slice none 0 0, .slice (some ⟨g6, 0, none⟩) 2 2]) (xTwo 17 (xN 1) (xTwo 17 (xN 2) (xN 3))) from IsEx.made (s := []) (TyRow.nil ..) (StrRow.nil ..) hr (by omega) (by omega))
 clear hr
 clear Ft5_56
 clear Fbft_55 Frib_55 Fb8_55 Frec_55 Frect_55 Frx_55 Ffi_55 Fca_55 Ffix_55 Fcax_55 Fx_55 Fy_55 Ft5_55 H55
 go_wp2_with fail
 refine (lawTold _ [49, 32, 45, 32, 40, 32, 50, 32, 45, 32, 51, 32, 41] _ w56 H56.out.g.gs H56.out.n (Ft6_56.out) (of_decide_eq_true e3z) (of_decide_eq_true e3l) e3).mono ?_
 rintro e w57 ⟨rfl, hb⟩
 have Fbft_57 := Lib.hid (Fbft_56.out.below hb)
 have Frib_57 := Lib.hid (Frib_56.out.below hb)
 have Fb8_57 := Lib.hid (Fb8_56.out.trans (hb.mono Fb8_56.out.size))
 have Frec_57 := Lib.hid ((hb.block _ (zaZ Frec_56.out)).trans Frec_56.out)
 have Frect_57 := Lib.hid (IsTy.below hb _ _ Frect_56.out)
 have Frx_57 := Lib.hid (Frx_56.out.below hb)
 have Ffi_57 := Lib.hid ((hb.block _ (zaZ Ffi_56.out)).trans Ffi_56.out)
 have Fca_57 := Lib.hid ((hb.block _ (zaZ Fca_56.out)).trans Fca_56.out)
 have Ffix_57 := Lib.hid (IsEx.below hb _ _ Ffix_56.out)
 have Fcax_57 := Lib.hid (IsEx.below hb _ _ Fcax_56.out)
 have Fx_57 := Lib.hid ((hb.block _ (zaZ Fx_56.out)).trans Fx_56.out)
 have Fy_57 := Lib.hid ((hb.block _ (zaZ Fy_56.out)).trans Fy_56.out)
 have Ft6_57 := Lib.hid (IsEx.below hb _ _ Ft6_56.out)
 have H57 := Lib.hid (H56.out.go hb)
 clear hb
 clear Ft6_57
 obtain ⟨xfi0_57, xfi1_57, xfi2_57, xfi3_57, xfi4_57, xfi5_57, xfi6_57⟩ := zbZ Ffi_57.out
 have xlfi_57 := zaZ Ffi_57.out
 obtain ⟨w58, hw58⟩ : ∃ X, w57.alloc (.cells #[.int .i64 0, .int .i64 9, .int .i64 0, .string ⟨#[97]⟩, .slice none 0 0, .slice none 0 0, .slice (some ⟨K32, 0, none⟩) 1 1] 39) = X := ⟨_, rfl⟩
 obtain ⟨K57, hK57⟩ : ∃ K, w57.heap.size = K := ⟨_, rfl⟩
 have hb58 : Below w57.heap.size w57 w58 := by rw [← hw58]; exact zdZ (World.grownBy_alloc w57 _ none)
 have hl58 : K57 < w58.heap.size := by rw [← hw58, ← hK57]; simp
 have Fbft_58 := Lib.hid (Fbft_57.out.below hb58)
 have Frib_58 := Lib.hid (Frib_57.out.below hb58)
 have Fb8_58 := Lib.hid (Fb8_57.out.trans (hb58.mono Fb8_57.out.size))
 have Frec_58 := Lib.hid ((hb58.block _ (zaZ Frec_57.out)).trans Frec_57.out)
 have Frect_58 := Lib.hid (IsTy.below hb58 _ _ Frect_57.out)
 have Frx_58 := Lib.hid (Frx_57.out.below hb58)
 have Ffi_58 := Lib.hid ((hb58.block _ (zaZ Ffi_57.out)).trans Ffi_57.out)
 have Fca_58 := Lib.hid ((hb58.block _ (zaZ Fca_57.out)).trans Fca_57.out)
 have Ffix_58 := Lib.hid (IsEx.below hb58 _ _ Ffix_57.out)
 have Fcax_58 := Lib.hid (IsEx.below hb58 _ _ Fcax_57.out)
 have Fx_58 := Lib.hid ((hb58.block _ (zaZ Fx_57.out)).trans Fx_57.out)
 have Fy_58 := Lib.hid ((hb58.block _ (zaZ Fy_57.out)).trans Fy_57.out)
 have H58 := Lib.hid (H57.out.go hb58)
 clear hb58
 have Fra_58 := Lib.hid (show ExRow w58 (.slice (some ⟨K57, 0, none⟩) 1 1) [xOne 9 [97] (xV [120])] from by rw [← hw58, ← hK57]; exact ExRow.new1 (Ffix_57.out))
 have Ftap_58 := Lib.hid (show IsEx w58 (.agg #[.int .i64 0, .int .i64 11, .int .i64 0, .string ⟨#[]⟩, .slice none 0 0, .slice none 0 0, .slice (some ⟨K57, 0, none⟩) 1 1]) (xOne 11 [] (xOne 9 [97] (xV [120]))) from IsEx.made (s := []) (TyRow.nil ..) (StrRow.nil ..) Fra_58.out (by omega) (by omega))
 clear Fbft_56 Frib_56 Fb8_56 Frec_56 Frect_56 Frx_56 Ffi_56 Fca_56 Ffix_56 Fcax_56 Fx_56 Fy_56 Ft6_56 H56 Fbft_57 Frib_57 Fb8_57 Frec_57 Frect_57 Frx_57 Ffi_57 Fca_57 Ffix_57 Fcax_57 Fx_57 Fy_57 H57
 go_wp2_with fail
 refine (lawTold _ [40, 32, 120, 32, 46, 32, 97, 32, 41, 32, 40, 32, 41] _ w58 H58.out.g.gs H58.out.n (Ftap_58.out) (of_decide_eq_true e4z) (of_decide_eq_true e4l) e4).mono ?_
 rintro e w59 ⟨rfl, hb⟩
 have Fbft_59 := Lib.hid (Fbft_58.out.below hb)
 have Frib_59 := Lib.hid (Frib_58.out.below hb)
 have Fb8_59 := Lib.hid (Fb8_58.out.trans (hb.mono Fb8_58.out.size))
 have Frec_59 := Lib.hid ((hb.block _ (zaZ Frec_58.out)).trans Frec_58.out)
 have Frect_59 := Lib.hid (IsTy.below hb _ _ Frect_58.out)
 have Frx_59 := Lib.hid (Frx_58.out.below hb)
 have Ffi_59 := Lib.hid ((hb.block _ (zaZ Ffi_58.out)).trans Ffi_58.out)
 have Fca_59 := Lib.hid ((hb.block _ (zaZ Fca_58.out)).trans Fca_58.out)
 have Ffix_59 := Lib.hid (IsEx.below hb _ _ Ffix_58.out)
 have Fcax_59 := Lib.hid (IsEx.below hb _ _ Fcax_58.out)
 have Fx_59 := Lib.hid ((hb.block _ (zaZ Fx_58.out)).trans Fx_58.out)
 have Fy_59 := Lib.hid ((hb.block _ (zaZ Fy_58.out)).trans Fy_58.out)
 have Fra_59 := Lib.hid (Fra_58.out.below hb)
 have Ftap_59 := Lib.hid (IsEx.below hb _ _ Ftap_58.out)
 have H59 := Lib.hid (H58.out.go hb)
 clear hb
 clear xfi0_57 xfi1_57 xfi2_57 xfi3_57 xfi4_57 xfi5_57 xfi6_57 xlfi_57 hl58
 clear Ftap_59
 clear Fra_59
 obtain ⟨xca0_59, xca1_59, xca2_59, xca3_59, xca4_59, xca5_59, xca6_59⟩ := zbZ Fca_59.out
 have xlca_59 := zaZ Fca_59.out
 clear Fbft_58 Frib_58 Fb8_58 Frec_58 Frect_58 Frx_58 Ffi_58 Fca_58 Ffix_58 Fcax_58 Fx_58 Fy_58 Fra_58 Ftap_58 H58
 go_wp2_with fail
 refine (lawTold _ [120, 32, 46, 32, 97, 32, 40, 32, 41] _ w59 H59.out.g.gs H59.out.n (Fcax_59.out) (of_decide_eq_true e5z) (of_decide_eq_true e5l) e5).mono ?_
 rintro e w60 ⟨rfl, hb⟩
 have Fbft_60 := Lib.hid (Fbft_59.out.below hb)
 have Frib_60 := Lib.hid (Frib_59.out.below hb)
 have Fb8_60 := Lib.hid (Fb8_59.out.trans (hb.mono Fb8_59.out.size))
 have Frec_60 := Lib.hid ((hb.block _ (zaZ Frec_59.out)).trans Frec_59.out)
 have Frect_60 := Lib.hid (IsTy.below hb _ _ Frect_59.out)
 have Frx_60 := Lib.hid (Frx_59.out.below hb)
 have Ffi_60 := Lib.hid ((hb.block _ (zaZ Ffi_59.out)).trans Ffi_59.out)
 have Fca_60 := Lib.hid ((hb.block _ (zaZ Fca_59.out)).trans Fca_59.out)
 have Ffix_60 := Lib.hid (IsEx.below hb _ _ Ffix_59.out)
 have Fcax_60 := Lib.hid (IsEx.below hb _ _ Fcax_59.out)
 have Fx_60 := Lib.hid ((hb.block _ (zaZ Fx_59.out)).trans Fx_59.out)
 have Fy_60 := Lib.hid ((hb.block _ (zaZ Fy_59.out)).trans Fy_59.out)
 have H60 := Lib.hid (H59.out.go hb)
 clear hb
 clear xca0_59 xca1_59 xca2_59 xca3_59 xca4_59 xca5_59 xca6_59 xlca_59
 clear Ffi_60
 clear Ffix_60
 clear Fca_60
 clear Fcax_60
 clear Frx_60
 obtain ⟨xx0_60, xx1_60, xx2_60, xx3_60, xx4_60, xx5_60, xx6_60⟩ := zbZ Fx_60.out
 have xlx_60 := zaZ Fx_60.out
 obtain ⟨xy0_60, xy1_60, xy2_60, xy3_60, xy4_60, xy5_60, xy6_60⟩ := zbZ Fy_60.out
 have xly_60 := zaZ Fy_60.out
 clear Fbft_59 Frib_59 Fb8_59 Frec_59 Frect_59 Frx_59 Ffi_59 Fca_59 Ffix_59 Fcax_59 Fx_59 Fy_59 H59
 go_wp2_with fail
 refine (lawTwo 18 (xV [120]) (xV [121]) _ _ w60 (isXV _ [120]) (isXV _ [121])).mono ?_
 rintro e w61 ⟨g7, rfl, hr, hb⟩
 have Fbft_61 := Lib.hid (Fbft_60.out.below hb)
 have Frib_61 := Lib.hid (Frib_60.out.below hb)
 have Fb8_61 := Lib.hid (Fb8_60.out.trans (hb.mono Fb8_60.out.size))
 have Frec_61 := Lib.hid ((hb.block _ (zaZ Frec_60.out)).trans Frec_60.out)
 have Frect_61 := Lib.hid (IsTy.below hb _ _ Frect_60.out)
 have Fx_61 := Lib.hid ((hb.block _ (zaZ Fx_60.out)).trans Fx_60.out)
 have Fy_61 := Lib.hid ((hb.block _ (zaZ Fy_60.out)).trans Fy_60.out)
 have H61 := Lib.hid (H60.out.go hb)
 clear hb
 clear xx0_60 xx1_60 xx2_60 xx3_60 xx4_60 xx5_60 xx6_60 xlx_60 xy0_60 xy1_60 xy2_60 xy3_60 xy4_60 xy5_60 xy6_60 xly_60
 have Ft7_61 := Lib.hid (show IsEx w61 (.agg #[.int .i64 0, .int .i64 18, .int .i64 0, .string ⟨#[]⟩, .slice none 0 0, .slice none 0 0, .slice (some ⟨g7, 0, none⟩) 2 2]) (xTwo 18 (xV [120]) (xV [121])) from IsEx.made (s := []) (TyRow.nil ..) (StrRow.nil ..) hr (by omega) (by omega))
 clear hr
 obtain ⟨w62, hw62⟩ : ∃ X, w61.alloc (.cells #[.int .i64 0, .int .i64 18, .int .i64 0, .string ⟨#[]⟩, .slice none 0 0, .slice none 0 0, .slice (some ⟨g7, 0, none⟩) 2 2] 39) = X := ⟨_, rfl⟩
 obtain ⟨K61, hK61⟩ : ∃ K, w61.heap.size = K := ⟨_, rfl⟩
 have hb62 : Below w61.heap.size w61 w62 := by rw [← hw62]; exact zdZ (World.grownBy_alloc w61 _ none)
 have hl62 : K61 < w62.heap.size := by rw [← hw62, ← hK61]; simp
 have Fbft_62 := Lib.hid (Fbft_61.out.below hb62)
 have Frib_62 := Lib.hid (Frib_61.out.below hb62)
 have Fb8_62 := Lib.hid (Fb8_61.out.trans (hb62.mono Fb8_61.out.size))
 have Frec_62 := Lib.hid ((hb62.block _ (zaZ Frec_61.out)).trans Frec_61.out)
 have Frect_62 := Lib.hid (IsTy.below hb62 _ _ Frect_61.out)
 have Fx_62 := Lib.hid ((hb62.block _ (zaZ Fx_61.out)).trans Fx_61.out)
 have Fy_62 := Lib.hid ((hb62.block _ (zaZ Fy_61.out)).trans Fy_61.out)
 have Ft7_62 := Lib.hid (IsEx.below hb62 _ _ Ft7_61.out)
 have H62 := Lib.hid (H61.out.go hb62)
 clear hb62
 have Frn_62 := Lib.hid (show ExRow w62 (.slice (some ⟨K61, 0, none⟩) 1 1) [xTwo 18 (xV [120]) (xV [121])] from by rw [← hw62, ← hK61]; exact ExRow.new1 (Ft7_61.out))
 have Ftno_62 := Lib.hid (show IsEx w62 (.agg #[.int .i64 0, .int .i64 14, .int .i64 0, .string ⟨#[]⟩, .slice none 0 0, .slice none 0 0, .slice (some ⟨K61, 0, none⟩) 1 1]) (xOne 14 [] (xTwo 18 (xV [120]) (xV [121]))) from IsEx.made (s := []) (TyRow.nil ..) (StrRow.nil ..) Frn_62.out (by omega) (by omega))
 clear Fbft_60 Frib_60 Fb8_60 Frec_60 Frect_60 Fx_60 Fy_60 H60 Fbft_61 Frib_61 Fb8_61 Frec_61 Frect_61 Fx_61 Fy_61 Ft7_61 H61
 go_wp2_with fail
 refine (lawTold _ [110, 111, 116, 32, 40, 32, 120, 32, 61, 61, 32, 121, 32, 41] _ w62 H62.out.g.gs H62.out.n (Ftno_62.out) (of_decide_eq_true e6z) (of_decide_eq_true e6l) e6).mono ?_
 rintro e w63 ⟨rfl, hb⟩
 have Fbft_63 := Lib.hid (Fbft_62.out.below hb)
 have Frib_63 := Lib.hid (Frib_62.out.below hb)
 have Fb8_63 := Lib.hid (Fb8_62.out.trans (hb.mono Fb8_62.out.size))
 have Frec_63 := Lib.hid ((hb.block _ (zaZ Frec_62.out)).trans Frec_62.out)
 have Frect_63 := Lib.hid (IsTy.below hb _ _ Frect_62.out)
 have Fx_63 := Lib.hid ((hb.block _ (zaZ Fx_62.out)).trans Fx_62.out)
 have Fy_63 := Lib.hid ((hb.block _ (zaZ Fy_62.out)).trans Fy_62.out)
 have Ft7_63 := Lib.hid (IsEx.below hb _ _ Ft7_62.out)
 have Frn_63 := Lib.hid (Frn_62.out.below hb)
 have Ftno_63 := Lib.hid (IsEx.below hb _ _ Ftno_62.out)
 have H63 := Lib.hid (H62.out.go hb)
 clear hb
 clear hl62
 clear Ftno_63
 clear Frn_63
 clear Ft7_63
 obtain ⟨xx0_63, xx1_63, xx2_63, xx3_63, xx4_63, xx5_63, xx6_63⟩ := zbZ Fx_63.out
 have xlx_63 := zaZ Fx_63.out
 obtain ⟨xy0_63, xy1_63, xy2_63, xy3_63, xy4_63, xy5_63, xy6_63⟩ := zbZ Fy_63.out
 have xly_63 := zaZ Fy_63.out
 clear Fbft_62 Frib_62 Fb8_62 Frec_62 Frect_62 Fx_62 Fy_62 Ft7_62 Frn_62 Ftno_62 H62
 go_wp2_with fail
 refine (lawTwo 18 (xV [120]) (xV [121]) _ _ w63 (isXV _ [120]) (isXV _ [121])).mono ?_
 rintro e w64 ⟨g8, rfl, hr, hb⟩
 have Fbft_64 := Lib.hid (Fbft_63.out.below hb)
 have Frib_64 := Lib.hid (Frib_63.out.below hb)
 have Fb8_64 := Lib.hid (Fb8_63.out.trans (hb.mono Fb8_63.out.size))
 have Frec_64 := Lib.hid ((hb.block _ (zaZ Frec_63.out)).trans Frec_63.out)
 have Frect_64 := Lib.hid (IsTy.below hb _ _ Frect_63.out)
 have Fx_64 := Lib.hid ((hb.block _ (zaZ Fx_63.out)).trans Fx_63.out)
 have Fy_64 := Lib.hid ((hb.block _ (zaZ Fy_63.out)).trans Fy_63.out)
 have H64 := Lib.hid (H63.out.go hb)
 clear hb
 clear xx0_63 xx1_63 xx2_63 xx3_63 xx4_63 xx5_63 xx6_63 xlx_63 xy0_63 xy1_63 xy2_63 xy3_63 xy4_63 xy5_63 xy6_63 xly_63
 have Ft8_64 := Lib.hid (show IsEx w64 (.agg #[.int .i64 0, .int .i64 18, .int .i64 0, .string ⟨#[]⟩, .slice none 0 0, .slice none 0 0, .slice (some ⟨g8, 0, none⟩) 2 2]) (xTwo 18 (xV [120]) (xV [121])) from IsEx.made (s := []) (TyRow.nil ..) (StrRow.nil ..) hr (by omega) (by omega))
 clear hr
 clear Fbft_63 Frib_63 Fb8_63 Frec_63 Frect_63 Fx_63 Fy_63 H63
 go_wp2_with fail
 refine (zbrZ ⟨#[122]⟩ w64).mono ?_
 rintro e w65 ⟨rfl, hb⟩
 have Fbft_65 := Lib.hid (Fbft_64.out.below hb)
 have Frib_65 := Lib.hid (Frib_64.out.below hb)
 have Fb8_65 := Lib.hid (Fb8_64.out.trans (hb.mono Fb8_64.out.size))
 have Frec_65 := Lib.hid ((hb.block _ (zaZ Frec_64.out)).trans Frec_64.out)
 have Frect_65 := Lib.hid (IsTy.below hb _ _ Frect_64.out)
 have Fx_65 := Lib.hid ((hb.block _ (zaZ Fx_64.out)).trans Fx_64.out)
 have Fy_65 := Lib.hid ((hb.block _ (zaZ Fy_64.out)).trans Fy_64.out)
 have Ft8_65 := Lib.hid (IsEx.below hb _ _ Ft8_64.out)
 have H65 := Lib.hid (H64.out.go hb)
 clear hb
 clear Fbft_64 Frib_64 Fb8_64 Frec_64 Frect_64 Fx_64 Fy_64 Ft8_64 H64
 go_wp2_with fail
 refine (lawTwo 18 (xTwo 18 (xV [120]) (xV [121])) (xV [122]) _ _ w65 (Ft8_65.out) (isXV _ [122])).mono ?_
 rintro e w66 ⟨g9, rfl, hr, hb⟩
 have Fbft_66 := Lib.hid (Fbft_65.out.below hb)
 have Frib_66 := Lib.hid (Frib_65.out.below hb)
 have Fb8_66 := Lib.hid (Fb8_65.out.trans (hb.mono Fb8_65.out.size))
 have Frec_66 := Lib.hid ((hb.block _ (zaZ Frec_65.out)).trans Frec_65.out)
 have Frect_66 := Lib.hid (IsTy.below hb _ _ Frect_65.out)
 have Fx_66 := Lib.hid ((hb.block _ (zaZ Fx_65.out)).trans Fx_65.out)
 have Fy_66 := Lib.hid ((hb.block _ (zaZ Fy_65.out)).trans Fy_65.out)
 have Ft8_66 := Lib.hid (IsEx.below hb _ _ Ft8_65.out)
 have H66 := Lib.hid (H65.out.go hb)
 clear hb
 have Ft9_66 := Lib.hid (show IsEx w66 (.agg #[.int .i64 0, .int .i64 18, .int .i64 0, .string ⟨#[]⟩, .slice none 0 0, .slice none 0 0, .slice (some ⟨g9, 0, none⟩) 2 2]) (xTwo 18 (xTwo 18 (xV [120]) (xV [121])) (xV [122])) from IsEx.made (s := []) (TyRow.nil ..) (StrRow.nil ..) hr (by omega) (by omega))
 clear hr
 clear Ft8_66
 clear Fbft_65 Frib_65 Fb8_65 Frec_65 Frect_65 Fx_65 Fy_65 Ft8_65 H65
 go_wp2_with fail
 refine (lawTold _ [40, 32, 120, 32, 61, 61, 32, 121, 32, 41, 32, 61, 61, 32, 122] _ w66 H66.out.g.gs H66.out.n (Ft9_66.out) (of_decide_eq_true e7z) (of_decide_eq_true e7l) e7).mono ?_
 rintro e w67 ⟨rfl, hb⟩
 have Fbft_67 := Lib.hid (Fbft_66.out.below hb)
 have Frib_67 := Lib.hid (Frib_66.out.below hb)
 have Fb8_67 := Lib.hid (Fb8_66.out.trans (hb.mono Fb8_66.out.size))
 have Frec_67 := Lib.hid ((hb.block _ (zaZ Frec_66.out)).trans Frec_66.out)
 have Frect_67 := Lib.hid (IsTy.below hb _ _ Frect_66.out)
 have Fx_67 := Lib.hid ((hb.block _ (zaZ Fx_66.out)).trans Fx_66.out)
 have Fy_67 := Lib.hid ((hb.block _ (zaZ Fy_66.out)).trans Fy_66.out)
 have Ft9_67 := Lib.hid (IsEx.below hb _ _ Ft9_66.out)
 have H67 := Lib.hid (H66.out.go hb)
 clear hb
 clear Ft9_67
 clear Fx_67
 clear Fy_67
 clear Fbft_66 Frib_66 Fb8_66 Frec_66 Frect_66 Fx_66 Fy_66 Ft9_66 H66
 go_wp2_with fail
 refine (lawNum (-1) w67).mono ?_
 rintro e w68 ⟨rfl, hb⟩
 have Fbft_68 := Lib.hid (Fbft_67.out.below hb)
 have Frib_68 := Lib.hid (Frib_67.out.below hb)
 have Fb8_68 := Lib.hid (Fb8_67.out.trans (hb.mono Fb8_67.out.size))
 have Frec_68 := Lib.hid ((hb.block _ (zaZ Frec_67.out)).trans Frec_67.out)
 have Frect_68 := Lib.hid (IsTy.below hb _ _ Frect_67.out)
 have H68 := Lib.hid (H67.out.go hb)
 clear hb
 clear Fbft_67 Frib_67 Fb8_67 Frec_67 Frect_67 H67
 go_wp2_with fail
 refine ((show Calls Tryz.prog 23 #[_] w68 (fun e W' => e = .returned (.tuple #[.string ⟨#[]⟩, .int .i64 1]) ∧ Below w68.heap.size w68 W') from by have h := synExpr (xN (-1)) _ w68 H68.out.g.gs H68.out.n (isXN _ (-1) (by omega) (by omega)) (by simp [xN, Sx.sizeX, Sx.sizeL, Sx.sizeXs]) (of_decide_eq_true e8l); rw [e8] at h; exact h)).mono ?_
 rintro e w69 ⟨rfl, hb⟩
 have Fbft_69 := Lib.hid (Fbft_68.out.below hb)
 have Frib_69 := Lib.hid (Frib_68.out.below hb)
 have Fb8_69 := Lib.hid (Fb8_68.out.trans (hb.mono Fb8_68.out.size))
 have Frec_69 := Lib.hid ((hb.block _ (zaZ Frec_68.out)).trans Frec_68.out)
 have Frect_69 := Lib.hid (IsTy.below hb _ _ Frect_68.out)
 have H69 := Lib.hid (H68.out.go hb)
 clear hb
 clear Fbft_68 Frib_68 Fb8_68 Frec_68 Frect_68 H68
 go_wp2_with fail
 refine (zenZ ⟨#[97]⟩ w69).mono ?_
 rintro e w70 ⟨rfl, hb⟩
 have Fbft_70 := Lib.hid (Fbft_69.out.below hb)
 have Frib_70 := Lib.hid (Frib_69.out.below hb)
 have Fb8_70 := Lib.hid (Fb8_69.out.trans (hb.mono Fb8_69.out.size))
 have Frec_70 := Lib.hid ((hb.block _ (zaZ Frec_69.out)).trans Frec_69.out)
 have Frect_70 := Lib.hid (IsTy.below hb _ _ Frect_69.out)
 have H70 := Lib.hid (H69.out.go hb)
 clear hb
 clear Fbft_69 Frib_69 Fb8_69 Frec_69 Frect_69 H69
 go_wp2_with fail
 refine ((show Calls Tryz.prog 14 #[_] w70 (fun e W' => e = .returned (.tuple #[.string ⟨#[]⟩, .int .i64 1]) ∧ Below w70.heap.size w70 W') from by have h := synType tA _ w70 H70.out.g.gs H70.out.n (isTN _ [97]) (of_decide_eq_true ztA); rw [sA] at h; exact h)).mono ?_
 rintro e w71 ⟨rfl, hb⟩
 have Fbft_71 := Lib.hid (Fbft_70.out.below hb)
 have Frib_71 := Lib.hid (Frib_70.out.below hb)
 have Fb8_71 := Lib.hid (Fb8_70.out.trans (hb.mono Fb8_70.out.size))
 have Frec_71 := Lib.hid ((hb.block _ (zaZ Frec_70.out)).trans Frec_70.out)
 have Frect_71 := Lib.hid (IsTy.below hb _ _ Frect_70.out)
 have H71 := Lib.hid (H70.out.go hb)
 clear hb
 obtain ⟨w72, hw72⟩ : ∃ X, w71.alloc (.cells #[.string ⟨#[97]⟩, .string ⟨#[97]⟩] 9) = X := ⟨_, rfl⟩
 obtain ⟨K71, hK71⟩ : ∃ K, w71.heap.size = K := ⟨_, rfl⟩
 have hb72 : Below w71.heap.size w71 w72 := by rw [← hw72]; exact zdZ (World.grownBy_alloc w71 _ none)
 have hl72 : K71 < w72.heap.size := by rw [← hw72, ← hK71]; simp
 have Fbft_72 := Lib.hid (Fbft_71.out.below hb72)
 have Frib_72 := Lib.hid (Frib_71.out.below hb72)
 have Fb8_72 := Lib.hid (Fb8_71.out.trans (hb72.mono Fb8_71.out.size))
 have Frec_72 := Lib.hid ((hb72.block _ (zaZ Frec_71.out)).trans Frec_71.out)
 have Frect_72 := Lib.hid (IsTy.below hb72 _ _ Frect_71.out)
 have H72 := Lib.hid (H71.out.go hb72)
 clear hb72
 have Fsaa_72 := Lib.hid (show StrRow w72 (.slice (some ⟨K71, 0, none⟩) 2 2) [[97], [97]] from by rw [← hw72, ← hK71]; exact StrRow.new w71 [[97], [97]])
 obtain ⟨xrec0_72, xrec1_72, xrec2_72, xrec3_72, xrec4_72⟩ := zcZ Frec_72.out
 have xlrec_72 := zaZ Frec_72.out
 have hfz := free_of Frec_72.out 2
 have HKW := Lib.hid (show w0.heap.size ≤ K5 by rw [← hK5]; exact HB8.out)
 have HKN := Lib.hid (show NG ≤ K5 by rw [← hK5]; exact HN8.out)
 have HK8 := Lib.hid hK5
 have HKn := Lib.hid hK71
 have hblk : w72.heap[K71]? = some (.cells (strsV [[97], [97]]).toArray 9 (0, 0)) := by rw [← hw72, ← hK71]; exact Row.new w71 [[97], [97]]
 have HNE := Lib.hid (show K71 ≠ K5 from fun e => by
  have h1 : w72.heap[K5]? = _ := Frec_72.out
  rw [← e, hblk] at h1
  injection h1 with h1
  injection h1 with _ h1
  exact absurd h1 (by decide))
 obtain ⟨w73, hw73⟩ : ∃ X, w72.setCell ⟨K5, 2, none⟩ (.slice (some ⟨K71, 0, none⟩) 2 2) = X := ⟨_, rfl⟩
 have hne : ∀ k, k ≠ K5 → w73.heap[k]? = w72.heap[k]? := fun k hk => by rw [← hw73]; exact Below.heap_setCell _ ⟨K5, 2, none⟩ _ _ (fun e => hk e)
 have hrc2 : w73.heap[K5]? = some (.cells #[.int .i64 6, .string ⟨#[]⟩, .slice (some ⟨K71, 0, none⟩) 2 2, .slice (some ⟨K1, 0, none⟩) 2 2, .slice (some ⟨K4, 0, none⟩) 2 2] 26 (0, 0)) := by
  rw [← hw73]
  simp only [World.setCell, Array.getElem?_modify, Frec_72.out, if_true, Option.map_some]
  rfl
 have hlb : Below w0.heap.size w0 w73 := by rw [← hw73]; exact H72.out.b.setCell (p := ⟨K5, 2, none⟩) HKW.out _
 have H73 : Hid (LW w0 w73) := Lib.hid ⟨hlb, ⟨H72.out.g.gs.of_heap (fun k hk _ => hne k (by have := HKN.out; omega))⟩, Nat.le_trans HN0.out hlb.size⟩
 have hj : Below w5.heap.size w5 w73 := by rw [← hw73]; exact Fb8_72.out.setCell (p := ⟨K5, 2, none⟩) (by rw [HK8.out]; exact Nat.le_refl _) _
 have hsr : StrRow w73 (.slice (some ⟨K71, 0, none⟩) 2 2) [[97], [97]] := ⟨_, _, rfl, fun i h => ⟨_, 0, rfl, by rw [Nat.zero_add]; exact Row.at (show Row w73 K71 [[97], [97]] from (hne _ HNE.out).trans hblk) h⟩⟩
 have FR2 := Lib.hid (show IsTy w73 (.agg #[.int .i64 6, .string ⟨#[]⟩, .slice (some ⟨K71, 0, none⟩) 2 2, .slice (some ⟨K1, 0, none⟩) 2 2, .slice (some ⟨K4, 0, none⟩) 2 2]) tRec2 from IsTy.made (nm := []) hsr (GB.out.below hj) (GR.out.below hj))
 obtain ⟨q0, q1, q2, q3, q4⟩ := zcZ hrc2
 have ql := zaZ hrc2
 clear hblk hne hrc2 hlb hj hsr
 clear Fbft_70 Frib_70 Fb8_70 Frec_70 Frect_70 H70 Fbft_71 Frib_71 Fb8_71 Frec_71 Frect_71 H71 Fbft_72 Frib_72 Fb8_72 Frec_72 Frect_72 Fsaa_72 H72
 go_wp2_with fail
 refine ((show Calls Tryz.prog 14 #[_] w73 (fun e W' => e = .returned (.tuple #[.string ⟨#[]⟩, .int .i64 1]) ∧ Below w73.heap.size w73 W') from by have h := synType tRec2 _ w73 H73.out.g.gs H73.out.n FR2.out (of_decide_eq_true ztRec2); rw [sRec2] at h; exact h)).mono ?_
 rintro e w74 ⟨rfl, hb⟩
 have H74 := Lib.hid (H73.out.go hb)
 clear hb
 clear hl72 xrec0_72 xrec1_72 xrec2_72 xrec3_72 xrec4_72 xlrec_72
 clear H73
 go_wp2_with fail
 refine ((show Calls Tryz.prog 24 #[_] w74 (fun e W' => e = .returned (.tuple #[.string ⟨#[]⟩, .int .i64 0]) ∧ Below w74.heap.size w74 W') from by have h := zlaZ [] _ w74 H74.out.g.gs H74.out.n (StRow.nil w74 none 0) (by simp [Sx.sizeSs]) (by simp [Sx.stmts]); rw [sNil] at h; exact h)).mono ?_
 rintro e w75 ⟨rfl, hb⟩
 have H75 := Lib.hid (H74.out.go hb)
 clear hb
 clear q0 q1 q2 q3 q4 ql
 go_wp2_with fail
 go_ret
 exact ⟨rfl, H75.out⟩
end Go.Proofs.YtdncljdfmdgdaaaGreatDoor
namespace Go.Proofs.YtdncljdfmdgdaaaGreatDoor
theorem runsOk : RunsOk := fun w0 hG hN => znmZ w0 hG hN
end Go.Proofs.YtdncljdfmdgdaaaGreatDoor
namespace Go.Proofs.YtdncljdfmdgdaaaGreatDoor
theorem zlbZ (a : Sx.Ty) (v : Value) (w : World) (ha : TyArg w v a) (hG : GL w) (hN : NG ≤ w.heap.size) :
  Calls Tryz.prog 4 #[v] w fun e w' => e = .returned (.bool true) ∧ LW w w' := znlZ runsOk a v w ha hG hN
end Go.Proofs.YtdncljdfmdgdaaaGreatDoor
