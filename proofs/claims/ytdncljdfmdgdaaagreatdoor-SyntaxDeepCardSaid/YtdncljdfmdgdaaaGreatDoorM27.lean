/-
  The walk of coillaw2.SyntaxDeep.
-/
import Derived.Test.YtdncljdfmdgdaaaGreatDoorM24
import Derived.Test.YtdncljdfmdgdaaaGreatDoorM26
namespace Go.Proofs.YtdncljdfmdgdaaaGreatDoor
open Go.RowKit Go.Shelf
set_option linter.unusedSimpArgs false
set_option linter.unusedVariables false

theorem seven_free {w : World} {g t : Nat} {cs : Array Value} (h : w.heap[g]? = some (.cells cs t (0, 0))) : w.frozen? ⟨g, 0, none⟩ = false ∧ w.frozen? ⟨g, 1, none⟩ = false ∧ w.frozen? ⟨g, 2, none⟩ = false ∧ w.frozen? ⟨g, 3, none⟩ = false ∧ w.frozen? ⟨g, 4, none⟩ = false ∧ w.frozen? ⟨g, 5, none⟩ = false ∧ w.frozen? ⟨g, 6, none⟩ = false :=
  ⟨free_of h 0, free_of h 1, free_of h 2, free_of h 3, free_of h 4, free_of h 5, free_of h 6⟩

set_option maxRecDepth 100000 in
set_option maxHeartbeats 16000000 in
theorem lawDeep (hruns : RunsOk) (n : Int) (hn0 : -9223372036854775808 ≤ n) (hn1 : n ≤ 9223372036854775807) (kd : Int) (hk0 : -9223372036854775808 ≤ kd) (hk1 : kd ≤ 9223372036854775807) (w : World) (hG : GL w) (hN : NG ≤ w.heap.size) :
    Calls Tryz.prog 7 #[.int .i64 n, .int .i64 kd] w fun e w' => e = .returned (.bool true) ∧ LW w w' := by
  have HG := Lib.hid hG
  have HN := Lib.hid hN
  have HRUN := Lib.hid hruns
  have HW := Lib.hid (lawWithin n (-1) 1 3 (by omega) (by omega) (by omega) (by omega) (by omega) hn0 hn1 w)
  obtain ⟨even, hev⟩ : ∃ b, (kd.tmod 2 == 0) = b := ⟨_, rfl⟩
  clear hG hN hruns hn0 hn1
  go_enter Tryz.func7, Tryz.ntmps7
  go_wp2_with fail
  refine HW.out.mono ?_
  rintro e w1 ⟨r, rfl, r0, r1, hww⟩
  have hww2 := hww.symm
  subst hww2
  clear hww
  obtain ⟨d, hd⟩ : ∃ d, -1 + r = d := ⟨_, rfl⟩
  obtain ⟨K, ek, hK, hK1, HOK, HDE⟩ : ∃ K ek : Nat, (63 : Int) + d = (K : Int) ∧ K ≤ 64 ∧ Hid (DeepOk even K ek) ∧ Hid ((ek = 0 ∧ (d = -1 ∨ d = 0)) ∨ (ek = 1 ∧ d = 1)) := by
    have h3 : d = -1 ∨ d = 0 ∨ d = 1 := by omega
    rcases h3 with rfl | rfl | rfl <;> cases even
    · exact ⟨62, 0, by omega, by omega, Lib.hid deepO62, Lib.hid (by omega)⟩
    · exact ⟨62, 0, by omega, by omega, Lib.hid deepE62, Lib.hid (by omega)⟩
    · exact ⟨63, 0, by omega, by omega, Lib.hid deepO63, Lib.hid (by omega)⟩
    · exact ⟨63, 0, by omega, by omega, Lib.hid deepE63, Lib.hid (by omega)⟩
    · exact ⟨64, 1, by omega, by omega, Lib.hid deepO64, Lib.hid (by omega)⟩
    · exact ⟨64, 1, by omega, by omega, Lib.hid deepE64, Lib.hid (by omega)⟩
  rw [hd]
  have d0 : -1 ≤ d := by omega
  have d1 : d ≤ 1 := by omega
  clear hd r0 r1
  have HK := Lib.hid hK
  go_wp2_with fail
  refine (lawTy 1 none 0 0 _).mono ?_
  rintro e wA ⟨rfl, hbA⟩
  obtain ⟨T, hT⟩ : ∃ T, wA.heap.size = T := ⟨_, rfl⟩
  go_wp2_with fail
  refine (lawNum 1 _).mono ?_
  rintro e wB ⟨rfl, hbB⟩
  obtain ⟨wA2, hA2⟩ : ∃ W, wA.alloc (.cells #[.int .i64 1, .string ⟨#[]⟩, .slice none 0 0, .slice none 0 0, .slice none 0 0] 26) = W := ⟨_, rfl⟩
  rw [hA2] at hbB
  obtain ⟨X, hX⟩ : ∃ T, wB.heap.size = T := ⟨_, rfl⟩
  go_wp2_with fail
  refine (lawNum 1 _).mono ?_
  rintro e wC ⟨rfl, hbC⟩
  obtain ⟨wB2, hB2⟩ : ∃ W, wB.alloc (.cells #[.int .i64 0, .int .i64 1, .int .i64 1, .string ⟨#[]⟩, .slice none 0 0, .slice none 0 0, .slice none 0 0] 39) = W := ⟨_, rfl⟩
  rw [hB2] at hbC
  obtain ⟨P, hP⟩ : ∃ T, wC.heap.size = T := ⟨_, rfl⟩
  go_wp2_with fail
  refine (lawNum 1 _).mono ?_
  rintro e wD ⟨rfl, hbD⟩
  obtain ⟨wC2, hC2⟩ : ∃ W, (wC.alloc (.cells #[.int .i64 0, .int .i64 1, .int .i64 1, .string ⟨#[]⟩, .slice none 0 0, .slice none 0 0, .slice none 0 0] 39)).alloc (.cells #[.int .i64 0, .int .i64 7, .string ⟨#[]⟩, .slice none 0 0, .slice (some ⟨P, 0, none⟩) 1 1, .slice none 0 0, .slice none 0 0] 69) = W := ⟨_, rfl⟩
  rw [hC2] at hbD
  obtain ⟨G, hGG⟩ : ∃ T, wD.heap.size = T := ⟨_, rfl⟩
  go_wp2_with fail
  obtain ⟨wD2, hD2⟩ : ∃ W, wD.alloc (.cells #[.int .i64 0, .int .i64 1, .int .i64 1, .string ⟨#[]⟩, .slice none 0 0, .slice none 0 0, .slice none 0 0] 39) = W := ⟨_, rfl⟩
  rw [hD2]
  have hinv : DeepInv w T X G (dT 0) (dX even 0) (dS 0) (dNum 1) #[.int .i64 1, .string ⟨#[]⟩, .slice none 0 0, .slice none 0 0, .slice none 0 0] #[.int .i64 0, .int .i64 1, .int .i64 1, .string ⟨#[]⟩, .slice none 0 0, .slice none 0 0, .slice none 0 0] #[.int .i64 0, .int .i64 1, .int .i64 1, .string ⟨#[]⟩, .slice none 0 0, .slice none 0 0, .slice none 0 0] (.slice (some ⟨P + 1, 0, none⟩) 1 1) wD2 := by
    have hbA2 : Below wA.heap.size wA wA2 := by rw [← hA2]; exact grown_below (World.grownBy_alloc wA _ none)
    have hbB2 : Below wB.heap.size wB wB2 := by rw [← hB2]; exact grown_below (World.grownBy_alloc wB _ none)
    have hbC2 : Below wC.heap.size wC wC2 := by rw [← hC2]; exact (grown_below (World.grownBy_alloc wC _ none)).trans ((grown_below (World.grownBy_alloc _ _ none)).mono (by simp))
    have hbD2 : Below wD.heap.size wD wD2 := by rw [← hD2]; exact grown_below (World.grownBy_alloc wD _ none)
    have sA : wA2.heap.size = T + 1 := by rw [← hA2, ← hT]; simp
    have sB : wB2.heap.size = X + 1 := by rw [← hB2, ← hX]; simp
    have sC : wC2.heap.size = P + 1 + 1 := by rw [← hC2, ← hP]; simp
    have sD : wD2.heap.size = G + 1 := by rw [← hD2, ← hGG]; simp
    have kT : wA2.heap[T]? = some (.cells #[.int .i64 1, .string ⟨#[]⟩, .slice none 0 0, .slice none 0 0, .slice none 0 0] 26 (0, 0)) := by rw [← hA2, ← hT]; exact heap_alloc_new wA _
    have kX : wB2.heap[X]? = some (.cells #[.int .i64 0, .int .i64 1, .int .i64 1, .string ⟨#[]⟩, .slice none 0 0, .slice none 0 0, .slice none 0 0] 39 (0, 0)) := by rw [← hB2, ← hX]; exact heap_alloc_new wB _
    have kP : wC2.heap[P]? = some (.cells #[.int .i64 0, .int .i64 1, .int .i64 1, .string ⟨#[]⟩, .slice none 0 0, .slice none 0 0, .slice none 0 0] 39 (0, 0)) := by rw [← hC2, ← hP]; exact heap_alloc (heap_alloc_new wC _) _
    have kQ : wC2.heap[P + 1]? = some (.cells #[.int .i64 0, .int .i64 7, .string ⟨#[]⟩, .slice none 0 0, .slice (some ⟨P, 0, none⟩) 1 1, .slice none 0 0, .slice none 0 0] 69 (0, 0)) := by
      have := heap_alloc_new (wC.alloc (.cells #[.int .i64 0, .int .i64 1, .int .i64 1, .string ⟨#[]⟩, .slice none 0 0, .slice none 0 0, .slice none 0 0] 39)) (.cells #[.int .i64 0, .int .i64 7, .string ⟨#[]⟩, .slice none 0 0, .slice (some ⟨P, 0, none⟩) 1 1, .slice none 0 0, .slice none 0 0] 69)
      rw [hC2, show (wC.alloc (.cells #[.int .i64 0, .int .i64 1, .int .i64 1, .string ⟨#[]⟩, .slice none 0 0, .slice none 0 0, .slice none 0 0] 39)).heap.size = P + 1 by rw [← hP]; simp] at this
      exact this
    have kG : wD2.heap[G]? = some (.cells #[.int .i64 0, .int .i64 1, .int .i64 1, .string ⟨#[]⟩, .slice none 0 0, .slice none 0 0, .slice none 0 0] 39 (0, 0)) := by rw [← hD2, ← hGG]; exact heap_alloc_new wD _
    have hs1 := hbA.size
    have hs2 := hbB.size
    have hs3 := hbC.size
    have hs4 := hbD.size
    have hC4 : Below wC2.heap.size wC2 wD2 := hbD.trans (hbD2.mono hbD.size)
    have hB4 : Below wB2.heap.size wB2 wD2 := (hbC.trans (hbC2.mono hbC.size)).trans (hC4.mono (by omega))
    have hA4 : Below wA2.heap.size wA2 wD2 := (hbB.trans (hbB2.mono hbB.size)).trans (hB4.mono (by omega))
    have hall : Below w.heap.size w wD2 := (hbA.trans (hbA2.mono hbA.size)).trans (hA4.mono (by omega))
    have kP' := (hC4.block P (by omega)).trans kP
    have kQ' := (hC4.block (P + 1) (by omega)).trans kQ
    have cP := fun j => (show (only wD2 (off3 T X G)).cell? ⟨P, j, none⟩ = (#[.int .i64 0, .int .i64 1, .int .i64 1, .string ⟨#[]⟩, .slice none 0 0, .slice none 0 0, .slice none 0 0] : Array Value)[j]? by rw [only_cell, if_pos (off3_iff.2 ⟨by omega, by omega, by omega⟩), cell_of kP'])
    have cQ := fun j => (show (only wD2 (off3 T X G)).cell? ⟨P + 1, j, none⟩ = (#[.int .i64 0, .int .i64 7, .string ⟨#[]⟩, .slice none 0 0, .slice (some ⟨P, 0, none⟩) 1 1, .slice none 0 0, .slice none 0 0] : Array Value)[j]? by rw [only_cell, if_pos (off3_iff.2 ⟨by omega, by omega, by omega⟩), cell_of kQ'])
    refine ⟨HG.out, HN.out, hall, by omega, by omega, by omega, (hA4.block T (by omega)).trans kT, (hB4.block X (by omega)).trans kX, kG, ?_, isDNum _ 1 (by omega) (by omega), ?_, isDNum _ 1 (by omega) (by omega)⟩
    · exact IsTy.made (nm := []) (StrRow.nil ..) (BoolRow.nil ..) (TyRow.nil ..)
    · exact StRow.of1 cQ (IsSt.made (nm := []) (TyRow.nil ..) (ExRow.of1 cP (isDNum _ 1 (by omega) (by omega))) (StRow.nil ..) (StRow.nil ..))
  have hsz : wC2.heap.size = P + 1 + 1 := by rw [← hC2, ← hP]; simp
  have HI0 := Lib.hid hinv
  clear hinv hbA hbB hbC hbD
  have HKE := Lib.hid hK1
  go_loopg [8, 10] K (fun i v8 v10 wr => ∃ (m : Nat) (kt : Int) (At : Option Addr) (nt et : Nat) (kx zx : Int) (Ax : Option Addr) (nx ex : Nat) (gl : Nat), i = K - m ∧ v8 = .slice (some ⟨gl, 0, none⟩) 1 1 ∧ v10 = .int .i64 (m : Nat) ∧ m ≤ K ∧
    DeepInv w T X G (dT m) (dX even m) (dS m) (dNum 1) #[.int .i64 kt, .string ⟨#[]⟩, .slice none 0 0, .slice none 0 0, .slice At nt et] #[.int .i64 0, .int .i64 kx, .int .i64 zx, .string ⟨#[]⟩, .slice none 0 0, .slice none 0 0, .slice Ax nx ex] #[.int .i64 0, .int .i64 1, .int .i64 1, .string ⟨#[]⟩, .slice none 0 0, .slice none 0 0, .slice none 0 0] (.slice (some ⟨gl, 0, none⟩) 1 1) wr)
  case atStart => exact ⟨0, 1, none, 0, 0, 1, 1, none, 0, 0, P + 1, rfl, rfl, rfl, Nat.zero_le _, HI0.out⟩
  case round =>
    obtain ⟨m, kt, At, nt, et, kx, zx, Ax, nx, ex, gl, hi, rfl, rfl, hm, hinv⟩ := hrel
    have HI := Lib.hid hi
    have H1 := Lib.hid hinv
    have m0 : (0 : Int) ≤ (m : Int) := by omega
    clear hi hinv
    obtain ⟨t0, t1, t2, t3, t4⟩ := five_cells H1.out.kt
    obtain ⟨x0, x1, x2, x3, x4, x5, x6⟩ := seven_cells H1.out.kx
    obtain ⟨g0, g1, g2, g3, g4, g5, g6⟩ := seven_cells H1.out.kg
    obtain ⟨l1, l2, l3⟩ := H1.out.lt
    by_cases hlt : m < K
    · have hmi : (m : Int) < (K : Int) := by omega
      go_wp2_with fail
      refine (lawTy 5 _ _ _ _).mono ?_
      rintro e w2 ⟨rfl, hb2⟩
      obtain ⟨N, hN⟩ : ∃ T, wr.heap.size = T := ⟨_, rfl⟩
      have hbA : Below wr.heap.size wr (wr.alloc (.cells #[.int .i64 kt, .string ⟨#[]⟩, .slice none 0 0, .slice none 0 0, .slice At nt et] 26)) := grown_below (World.grownBy_alloc wr _ none)
      have kN := (hb2.block N (by rw [← hN]; simp)).trans (show _ = some (.cells #[.int .i64 kt, .string ⟨#[]⟩, .slice none 0 0, .slice none 0 0, .slice At nt et] 26 (0, 0)) from by rw [← hN]; exact heap_alloc_new wr _)
      have hbW := hbA.trans (hb2.mono hbA.size)
      have h2 := H1.out.go hbW
      have ft2 : IsTy (only w2 (off3 T X G)) (.agg #[.int .i64 5, .string ⟨#[]⟩, .slice none 0 0, .slice none 0 0, .slice (some ⟨N, 0, none⟩) 1 1]) (dT (m + 1)) :=
        IsTy.made (nm := []) (StrRow.nil ..) (BoolRow.nil ..) (TyRow.of1 (only_new kN (by omega) (by omega) (by omega)) h2.ft)
      have h3 := h2.setT (.int .i64 5) (.string ⟨#[]⟩) (.slice none 0 0) (.slice none 0 0) (.slice (some ⟨N, 0, none⟩) 1 1) rfl ft2
      have H2 := Lib.hid h2
      have H3 := Lib.hid h3
      clear t0 t1 t2 t3 t4 x0 x1 x2 x3 x4 x5 x6 g0 g1 g2 g3 g4 g5 g6 l1 l2 l3
      clear hbA kN hbW h2 ft2 h3 hb2
      obtain ⟨t0, t1, t2, t3, t4⟩ := five_cells H2.out.kt
      obtain ⟨x0, x1, x2, x3, x4, x5, x6⟩ := seven_cells H2.out.kx
      obtain ⟨g0, g1, g2, g3, g4, g5, g6⟩ := seven_cells H2.out.kg
      obtain ⟨l1, l2, l3⟩ := H2.out.lt
      obtain ⟨f0, f1, f2, f3, f4⟩ := five_free H2.out.kt
      go_upto_region 10 with (fail)
      obtain ⟨w3, hw3⟩ : ∃ W, (((((w2.setCell ⟨T, 0, none⟩ (.int .i64 5)).setCell ⟨T, 1, none⟩ (.string ⟨#[]⟩)).setCell ⟨T, 2, none⟩ (.slice none 0 0)).setCell ⟨T, 3, none⟩ (.slice none 0 0)).setCell ⟨T, 4, none⟩ (.slice (some ⟨N, 0, none⟩) 1 1)) = W := ⟨_, rfl⟩
      have h3 := H3.out
      rw [hw3] at h3 ⊢
      have H4 := Lib.hid h3
      clear t0 t1 t2 t3 t4 x0 x1 x2 x3 x4 x5 x6 g0 g1 g2 g3 g4 g5 g6 l1 l2 l3
      clear h3 hw3 H3 H2 f0 f1 f2 f3 f4
      obtain ⟨t0, t1, t2, t3, t4⟩ := five_cells H4.out.kt
      obtain ⟨x0, x1, x2, x3, x4, x5, x6⟩ := seven_cells H4.out.kx
      obtain ⟨g0, g1, g2, g3, g4, g5, g6⟩ := seven_cells H4.out.kg
      obtain ⟨l1, l2, l3⟩ := H4.out.lt
      obtain ⟨f0, f1, f2, f3, f4, f5, f6⟩ := seven_free H4.out.kx
      cases even with
      | true =>
        obtain ⟨Q, hQ⟩ : ∃ T, w3.heap.size = T := ⟨_, rfl⟩
        have hbA : Below w3.heap.size w3 (w3.alloc (.cells #[.int .i64 0, .int .i64 kx, .int .i64 zx, .string ⟨#[]⟩, .slice none 0 0, .slice none 0 0, .slice Ax nx ex] 39)) := grown_below (World.grownBy_alloc w3 _ none)
        have kQ : (w3.alloc (.cells #[.int .i64 0, .int .i64 kx, .int .i64 zx, .string ⟨#[]⟩, .slice none 0 0, .slice none 0 0, .slice Ax nx ex] 39)).heap[Q]? = some (.cells #[.int .i64 0, .int .i64 kx, .int .i64 zx, .string ⟨#[]⟩, .slice none 0 0, .slice none 0 0, .slice Ax nx ex] 39 (0, 0)) := by rw [← hQ]; exact heap_alloc_new w3 _
        have h5 := H4.out.go hbA
        have fx5 : IsEx (only (w3.alloc (.cells #[.int .i64 0, .int .i64 kx, .int .i64 zx, .string ⟨#[]⟩, .slice none 0 0, .slice none 0 0, .slice Ax nx ex] 39)) (off3 T X G)) (.agg #[.int .i64 0, .int .i64 14, .int .i64 0, .string ⟨#[]⟩, .slice none 0 0, .slice none 0 0, .slice (some ⟨Q, 0, none⟩) 1 1]) (dX true (m + 1)) :=
          IsEx.made (s := []) (TyRow.nil ..) (StrRow.nil ..) (ExRow.of1 (only_new kQ (by omega) (by omega) (by omega)) h5.fx) (by omega) (by omega)
        have h6 := h5.setX (.int .i64 0) (.int .i64 14) (.int .i64 0) (.string ⟨#[]⟩) (.slice none 0 0) (.slice none 0 0) (.slice (some ⟨Q, 0, none⟩) 1 1) rfl fx5
        have H6 := Lib.hid h6
        obtain ⟨p0, p1, p2, p3, p4, p5, p6⟩ := seven_cells h5.kx
        obtain ⟨q0, q1, q2, q3, q4, q5, q6⟩ := seven_free h5.kx
        clear h5 h6 fx5 kQ hbA
        go_upto_region 13 with (fail)
        obtain ⟨w6, hw6⟩ : ∃ W, ((((((((w3.alloc (.cells #[.int .i64 0, .int .i64 kx, .int .i64 zx, .string ⟨#[]⟩, .slice none 0 0, .slice none 0 0, .slice Ax nx ex] 39)).setCell ⟨X, 0, none⟩ (.int .i64 0)).setCell ⟨X, 1, none⟩ (.int .i64 14)).setCell ⟨X, 2, none⟩ (.int .i64 0)).setCell ⟨X, 3, none⟩ (.string ⟨#[]⟩)).setCell ⟨X, 4, none⟩ (.slice none 0 0)).setCell ⟨X, 5, none⟩ (.slice none 0 0)).setCell ⟨X, 6, none⟩ (.slice (some ⟨Q, 0, none⟩) 1 1)) = W := ⟨_, rfl⟩
        have h6 := H6.out
        rw [hw6] at h6 ⊢
        have H7 := Lib.hid h6
        clear t0 t1 t2 t3 t4 x0 x1 x2 x3 x4 x5 x6 g0 g1 g2 g3 g4 g5 g6 l1 l2 l3
        clear h6 hw6 H6 f0 f1 f2 f3 f4 f5 f6 p0 p1 p2 p3 p4 p5 p6 q0 q1 q2 q3 q4 q5 q6
        go_wp2_with fail
        refine (lawNum 1 _).mono ?_
        rintro e wN ⟨rfl, hbN⟩
        have hN := H7.out.go hbN
        obtain ⟨P, hP⟩ : ∃ T, wN.heap.size = T := ⟨_, rfl⟩
        have hlN := hN.lt
        go_wp2_with fail
        obtain ⟨wP, hwP⟩ : ∃ W, (wN.alloc (.cells #[.int .i64 0, .int .i64 1, .int .i64 1, .string ⟨#[]⟩, .slice none 0 0, .slice none 0 0, .slice none 0 0] 39)).alloc (.cells #[.int .i64 0, .int .i64 5, .string ⟨#[]⟩, .slice none 0 0, .slice (some ⟨P, 0, none⟩) 1 1, .slice (some ⟨gl, 0, none⟩) 1 1, .slice none 0 0] 69) = W := ⟨_, rfl⟩
        have hbP : Below wN.heap.size wN wP := by rw [← hwP]; exact (grown_below (World.grownBy_alloc wN _ none)).trans ((grown_below (World.grownBy_alloc _ _ none)).mono (by simp))
        have kP : wP.heap[P]? = some (.cells #[.int .i64 0, .int .i64 1, .int .i64 1, .string ⟨#[]⟩, .slice none 0 0, .slice none 0 0, .slice none 0 0] 39 (0, 0)) := by rw [← hwP, ← hP]; exact heap_alloc (heap_alloc_new wN _) _
        have kQ : wP.heap[P + 1]? = some (.cells #[.int .i64 0, .int .i64 5, .string ⟨#[]⟩, .slice none 0 0, .slice (some ⟨P, 0, none⟩) 1 1, .slice (some ⟨gl, 0, none⟩) 1 1, .slice none 0 0] 69 (0, 0)) := by
          have := heap_alloc_new (wN.alloc (.cells #[.int .i64 0, .int .i64 1, .int .i64 1, .string ⟨#[]⟩, .slice none 0 0, .slice none 0 0, .slice none 0 0] 39)) (.cells #[.int .i64 0, .int .i64 5, .string ⟨#[]⟩, .slice none 0 0, .slice (some ⟨P, 0, none⟩) 1 1, .slice (some ⟨gl, 0, none⟩) 1 1, .slice none 0 0] 69)
          rw [hwP, show (wN.alloc (.cells #[.int .i64 0, .int .i64 1, .int .i64 1, .string ⟨#[]⟩, .slice none 0 0, .slice none 0 0, .slice none 0 0] 39)).heap.size = P + 1 by rw [← hP]; simp] at this
          exact this
        have hI := hN.go hbP
        have hfin := hI.list (StRow.of1 (only_new kQ (by omega) (by omega) (by omega)) (IsSt.made (nm := []) (TyRow.nil ..) (ExRow.of1 (only_new kP (by omega) (by omega) (by omega)) (isDNum _ 1 (by omega) (by omega))) hI.fl (StRow.nil ..)))
        have HFIN := Lib.hid hfin
        have hwsz : (wN.alloc (.cells #[.int .i64 0, .int .i64 1, .int .i64 1, .string ⟨#[]⟩, .slice none 0 0, .slice none 0 0, .slice none 0 0] 39)).heap.size = P + 1 := by rw [← hP]; simp
        clear hfin hI kP kQ hbP hN hbN
        go_roundg (K - (m + 1))
        case measure => have := HI.out; omega
        case rel => exact ⟨m + 1, _, _, _, _, _, _, _, _, _, P + 1, rfl, by first | rfl | (rw [hP]), by simp, hlt, by first | exact HFIN.out | (rw [hwP]; exact HFIN.out)⟩
      | false =>
        go_upto_region 12 with (fail)
        go_region_with (first
          | (go_at_call 22; refine (lawNum 2 _).mono ?_; rintro e w4 ⟨rfl, hb4⟩; have h4 := (H4.out.go (Below.drewN (Below.refl _ _) 1 : Below w3.heap.size w3 w3.drew)).go hb4; have H5 := Lib.hid h4; clear h4; clear t0 t1 t2 t3 t4 x0 x1 x2 x3 x4 x5 x6 g0 g1 g2 g3 g4 g5 g6 l1 l2 l3; obtain ⟨x0, x1, x2, x3, x4, x5, x6⟩ := seven_cells H5.out.kx; obtain ⟨l1, l2, l3⟩ := H5.out.lt)
          | (go_at_call 21; refine (lawTwoB _ _ _ _ _ _ _ _ _ _ _ _ _ _ _ _ _ _ _ _ _ _ _ _ _ _ _ _).mono ?_; rintro e w5 ⟨Q, rfl, hq1, hq2, hb5⟩; have HQ2 := Lib.hid hq2; have h5 := H5.out.go hb5; have hls5 := H5.out.lt; have H6 := Lib.hid h5; clear h5 hq2 x0 x1 x2 x3 x4 x5 x6 l1 l2 l3; obtain ⟨x0, x1, x2, x3, x4, x5, x6⟩ := seven_cells H6.out.kx; obtain ⟨f0, f1, f2, f3, f4, f5, f6⟩ := seven_free H6.out.kx; obtain ⟨l1, l2, l3⟩ := H6.out.lt))
        all_goals
          have fx5 : IsEx (only w5 (off3 T X G)) (.agg #[.int .i64 0, .int .i64 16, .int .i64 0, .string ⟨#[]⟩, .slice none 0 0, .slice none 0 0, .slice (some ⟨Q, 0, none⟩) 2 2]) (dX false (m + 1)) :=
            IsEx.made (s := []) (TyRow.nil ..) (StrRow.nil ..) (ExRow.of2 (only_new HQ2.out (by omega) (by omega) (by omega)) (isDNum _ 2 (by omega) (by omega)) H6.out.fx) (by omega) (by omega)
          have h6 := H6.out.setX (.int .i64 0) (.int .i64 16) (.int .i64 0) (.string ⟨#[]⟩) (.slice none 0 0) (.slice none 0 0) (.slice (some ⟨Q, 0, none⟩) 2 2) rfl fx5
          obtain ⟨w6, hw6⟩ : ∃ W, (((((((w5.setCell ⟨X, 0, none⟩ (.int .i64 0)).setCell ⟨X, 1, none⟩ (.int .i64 16)).setCell ⟨X, 2, none⟩ (.int .i64 0)).setCell ⟨X, 3, none⟩ (.string ⟨#[]⟩)).setCell ⟨X, 4, none⟩ (.slice none 0 0)).setCell ⟨X, 5, none⟩ (.slice none 0 0)).setCell ⟨X, 6, none⟩ (.slice (some ⟨Q, 0, none⟩) 2 2)) = W := ⟨_, rfl⟩
          rw [hw6] at h6 ⊢
          have H7 := Lib.hid h6
          clear h6 hw6 fx5 x0 x1 x2 x3 x4 x5 x6 f0 f1 f2 f3 f4 f5 f6 l1 l2 l3
          go_wp2_with fail
          refine (lawNum 1 _).mono ?_
          rintro e wN ⟨rfl, hbN⟩
          have hN := H7.out.go hbN
          obtain ⟨P, hP⟩ : ∃ T, wN.heap.size = T := ⟨_, rfl⟩
          have hlN := hN.lt
          go_wp2_with fail
          obtain ⟨wP, hwP⟩ : ∃ W, (wN.alloc (.cells #[.int .i64 0, .int .i64 1, .int .i64 1, .string ⟨#[]⟩, .slice none 0 0, .slice none 0 0, .slice none 0 0] 39)).alloc (.cells #[.int .i64 0, .int .i64 5, .string ⟨#[]⟩, .slice none 0 0, .slice (some ⟨P, 0, none⟩) 1 1, .slice (some ⟨gl, 0, none⟩) 1 1, .slice none 0 0] 69) = W := ⟨_, rfl⟩
          have hbP : Below wN.heap.size wN wP := by rw [← hwP]; exact (grown_below (World.grownBy_alloc wN _ none)).trans ((grown_below (World.grownBy_alloc _ _ none)).mono (by simp))
          have kP : wP.heap[P]? = some (.cells #[.int .i64 0, .int .i64 1, .int .i64 1, .string ⟨#[]⟩, .slice none 0 0, .slice none 0 0, .slice none 0 0] 39 (0, 0)) := by rw [← hwP, ← hP]; exact heap_alloc (heap_alloc_new wN _) _
          have kQ : wP.heap[P + 1]? = some (.cells #[.int .i64 0, .int .i64 5, .string ⟨#[]⟩, .slice none 0 0, .slice (some ⟨P, 0, none⟩) 1 1, .slice (some ⟨gl, 0, none⟩) 1 1, .slice none 0 0] 69 (0, 0)) := by
            have := heap_alloc_new (wN.alloc (.cells #[.int .i64 0, .int .i64 1, .int .i64 1, .string ⟨#[]⟩, .slice none 0 0, .slice none 0 0, .slice none 0 0] 39)) (.cells #[.int .i64 0, .int .i64 5, .string ⟨#[]⟩, .slice none 0 0, .slice (some ⟨P, 0, none⟩) 1 1, .slice (some ⟨gl, 0, none⟩) 1 1, .slice none 0 0] 69)
            rw [hwP, show (wN.alloc (.cells #[.int .i64 0, .int .i64 1, .int .i64 1, .string ⟨#[]⟩, .slice none 0 0, .slice none 0 0, .slice none 0 0] 39)).heap.size = P + 1 by rw [← hP]; simp] at this
            exact this
          have hI := hN.go hbP
          have hfin := hI.list (StRow.of1 (only_new kQ (by omega) (by omega) (by omega)) (IsSt.made (nm := []) (TyRow.nil ..) (ExRow.of1 (only_new kP (by omega) (by omega) (by omega)) (isDNum _ 1 (by omega) (by omega))) hI.fl (StRow.nil ..)))
          have HFIN := Lib.hid hfin
          have hwsz : (wN.alloc (.cells #[.int .i64 0, .int .i64 1, .int .i64 1, .string ⟨#[]⟩, .slice none 0 0, .slice none 0 0, .slice none 0 0] 39)).heap.size = P + 1 := by rw [← hP]; simp
          clear hfin hI kP kQ hbP hN hbN
          go_roundg (K - (m + 1))
          case measure => have := HI.out; omega
          case rel => exact ⟨m + 1, _, _, _, _, _, _, _, _, _, P + 1, rfl, by first | rfl | (rw [hP]), by simp, hlt, by first | exact HFIN.out | (rw [hwP]; exact HFIN.out)⟩
    · have hmi : ¬ (m : Int) < (K : Int) := by omega
      have hmK : m = K := by omega
      subst hmK
      have HIM := Lib.hid hmi
      clear hmi hlt hm
      go_wp2_with fail
      go_loopg [11] 300 (fun i v wr => ∃ (j : Nat) (kg zg : Int) (Ag : Option Addr) (ng eg : Nat), i = 300 - j ∧ v = .int .i64 (j : Nat) ∧ j ≤ 300 ∧
        DeepInv w T X G (dT m) (dX even m) (dS m) (dL j) #[.int .i64 kt, .string ⟨#[]⟩, .slice none 0 0, .slice none 0 0, .slice At nt et] #[.int .i64 0, .int .i64 kx, .int .i64 zx, .string ⟨#[]⟩, .slice none 0 0, .slice none 0 0, .slice Ax nx ex] #[.int .i64 0, .int .i64 kg, .int .i64 zg, .string ⟨#[]⟩, .slice none 0 0, .slice none 0 0, .slice Ag ng eg] (.slice (some ⟨gl, 0, none⟩) 1 1) wr)
      case atStart => exact ⟨0, 1, 1, none, 0, 0, rfl, rfl, Nat.zero_le _, H1.out⟩
      case round =>
        clear t0 t1 t2 t3 t4 x0 x1 x2 x3 x4 x5 x6 g0 g1 g2 g3 g4 g5 g6 l1 l2 l3
        obtain ⟨j, kg, zg, Ag, ng, eg, hj, rfl, hj1, hinv⟩ := hrel
        have HJ := Lib.hid hj
        have H2 := Lib.hid hinv
        have j0 : (0 : Int) ≤ (j : Int) := by omega
        clear hj hinv
        obtain ⟨t0, t1, t2, t3, t4⟩ := five_cells H2.out.kt
        obtain ⟨x0, x1, x2, x3, x4, x5, x6⟩ := seven_cells H2.out.kx
        obtain ⟨g0, g1, g2, g3, g4, g5, g6⟩ := seven_cells H2.out.kg
        obtain ⟨l1, l2, l3⟩ := H2.out.lt
        by_cases hjl : j < 300
        · have hji : (j : Int) < 300 := by omega
          go_upto_region 17 with (fail)
          go_region_with (first
            | (go_at_call 22; refine (lawNum 1 _).mono ?_; rintro e w4 ⟨rfl, hb4⟩; have h4 := (H2.out.go (Below.drewN (Below.refl _ _) 1 : Below wr.heap.size wr wr.drew)).go hb4; have H5 := Lib.hid h4; clear h4; clear t0 t1 t2 t3 t4 x0 x1 x2 x3 x4 x5 x6 g0 g1 g2 g3 g4 g5 g6 l1 l2 l3; obtain ⟨g0, g1, g2, g3, g4, g5, g6⟩ := seven_cells H5.out.kg; obtain ⟨l1, l2, l3⟩ := H5.out.lt)
            | (go_at_call 21; refine (lawTwoB _ _ _ _ _ _ _ _ _ _ _ _ _ _ _ _ _ _ _ _ _ _ _ _ _ _ _ _).mono ?_; rintro e w5 ⟨Q, rfl, hq1, hq2, hb5⟩; have HQ2 := Lib.hid hq2; have h5 := H5.out.go hb5; have hls5 := H5.out.lt; have H6 := Lib.hid h5; clear h5 hq2 g0 g1 g2 g3 g4 g5 g6 l1 l2 l3; obtain ⟨g0, g1, g2, g3, g4, g5, g6⟩ := seven_cells H6.out.kg; obtain ⟨f0, f1, f2, f3, f4, f5, f6⟩ := seven_free H6.out.kg; obtain ⟨l1, l2, l3⟩ := H6.out.lt))
          all_goals
            have fx5 : IsEx (only w5 (off3 T X G)) (.agg #[.int .i64 0, .int .i64 16, .int .i64 0, .string ⟨#[]⟩, .slice none 0 0, .slice none 0 0, .slice (some ⟨Q, 0, none⟩) 2 2]) (dL (j + 1)) :=
              IsEx.made (s := []) (TyRow.nil ..) (StrRow.nil ..) (ExRow.of2 (only_new HQ2.out (by omega) (by omega) (by omega)) H6.out.fg (isDNum _ 1 (by omega) (by omega))) (by omega) (by omega)
            have h6 := H6.out.setG (.int .i64 0) (.int .i64 16) (.int .i64 0) (.string ⟨#[]⟩) (.slice none 0 0) (.slice none 0 0) (.slice (some ⟨Q, 0, none⟩) 2 2) rfl fx5
            obtain ⟨w6, hw6⟩ : ∃ W, (((((((w5.setCell ⟨G, 0, none⟩ (.int .i64 0)).setCell ⟨G, 1, none⟩ (.int .i64 16)).setCell ⟨G, 2, none⟩ (.int .i64 0)).setCell ⟨G, 3, none⟩ (.string ⟨#[]⟩)).setCell ⟨G, 4, none⟩ (.slice none 0 0)).setCell ⟨G, 5, none⟩ (.slice none 0 0)).setCell ⟨G, 6, none⟩ (.slice (some ⟨Q, 0, none⟩) 2 2)) = W := ⟨_, rfl⟩
            rw [hw6] at h6 ⊢
            have H7 := Lib.hid h6
            clear h6 hw6 fx5 g0 g1 g2 g3 g4 g5 g6 f0 f1 f2 f3 f4 f5 f6 l1 l2 l3
            go_wp2_with fail
            go_roundg (300 - (j + 1))
            case measure => have := HJ.out; omega
            case rel => exact ⟨j + 1, _, _, _, _, _, rfl, by simp, hjl, H7.out⟩
        · have hji : ¬ (j : Int) < 300 := by omega
          have hj300 : j = 300 := by omega
          subst hj300
          obtain ⟨yL, hyL⟩ : ∃ y, dL 300 = y := ⟨_, rfl⟩
          have hL1 := deepL
          have hL2 := deepLz
          have hL3 := deepLl
          rw [hyL] at hL1 hL2 hL3
          have h2 := H2.out
          rw [hyL] at h2
          have HH := Lib.hid h2
          have INVT := fun W' (h : DeepInv w T X G (dT m) (dX even m) (dS m) (yL) #[.int .i64 kt, .string ⟨#[]⟩, .slice none 0 0, .slice none 0 0, .slice At nt et] #[.int .i64 0, .int .i64 kx, .int .i64 zx, .string ⟨#[]⟩, .slice none 0 0, .slice none 0 0, .slice Ax nx ex] #[.int .i64 0, .int .i64 kg, .int .i64 zg, .string ⟨#[]⟩, .slice none 0 0, .slice none 0 0, .slice Ag ng eg] (.slice (some ⟨gl, 0, none⟩) 1 1) W') => h
          have HTY := Lib.hid (fun Y (h : DeepInv w T X G (dT m) (dX even m) (dS m) (yL) #[.int .i64 kt, .string ⟨#[]⟩, .slice none 0 0, .slice none 0 0, .slice At nt et] #[.int .i64 0, .int .i64 kx, .int .i64 zx, .string ⟨#[]⟩, .slice none 0 0, .slice none 0 0, .slice Ax nx ex] #[.int .i64 0, .int .i64 kg, .int .i64 zg, .string ⟨#[]⟩, .slice none 0 0, .slice none 0 0, .slice Ag ng eg] (.slice (some ⟨gl, 0, none⟩) 1 1) Y) => (synType (dT m) _ Y h.lw.g.gs h.lw.n (IsTy.sub (only_sub _ _) _ _ h.ft) (of_decide_eq_true HOK.out.zt)).mono fun e w' r => (show ∃ s, e = .returned (.tuple #[.string s, .int .i64 (ek : Nat)]) ∧ DeepInv w T X G (dT m) (dX even m) (dS m) (yL) #[.int .i64 kt, .string ⟨#[]⟩, .slice none 0 0, .slice none 0 0, .slice At nt et] #[.int .i64 0, .int .i64 kx, .int .i64 zx, .string ⟨#[]⟩, .slice none 0 0, .slice none 0 0, .slice Ax nx ex] #[.int .i64 0, .int .i64 kg, .int .i64 zg, .string ⟨#[]⟩, .slice none 0 0, .slice none 0 0, .slice Ag ng eg] (.slice (some ⟨gl, 0, none⟩) 1 1) w' by obtain ⟨r1, r2⟩ := r; subst r1; exact ⟨_, by rw [HOK.out.t], h.go r2⟩))
          have HXY := Lib.hid (fun Y (h : DeepInv w T X G (dT m) (dX even m) (dS m) (yL) #[.int .i64 kt, .string ⟨#[]⟩, .slice none 0 0, .slice none 0 0, .slice At nt et] #[.int .i64 0, .int .i64 kx, .int .i64 zx, .string ⟨#[]⟩, .slice none 0 0, .slice none 0 0, .slice Ax nx ex] #[.int .i64 0, .int .i64 kg, .int .i64 zg, .string ⟨#[]⟩, .slice none 0 0, .slice none 0 0, .slice Ag ng eg] (.slice (some ⟨gl, 0, none⟩) 1 1) Y) => (synExpr (dX even m) _ Y h.lw.g.gs h.lw.n (IsEx.sub (only_sub _ _) _ _ h.fx) (of_decide_eq_true HOK.out.zx) (of_decide_eq_true HOK.out.lx)).mono fun e w' r => (show ∃ s, e = .returned (.tuple #[.string s, .int .i64 (ek : Nat)]) ∧ DeepInv w T X G (dT m) (dX even m) (dS m) (yL) #[.int .i64 kt, .string ⟨#[]⟩, .slice none 0 0, .slice none 0 0, .slice At nt et] #[.int .i64 0, .int .i64 kx, .int .i64 zx, .string ⟨#[]⟩, .slice none 0 0, .slice none 0 0, .slice Ax nx ex] #[.int .i64 0, .int .i64 kg, .int .i64 zg, .string ⟨#[]⟩, .slice none 0 0, .slice none 0 0, .slice Ag ng eg] (.slice (some ⟨gl, 0, none⟩) 1 1) w' by obtain ⟨r1, r2⟩ := r; subst r1; exact ⟨_, by rw [HOK.out.x], h.go r2⟩))
          have HSY := Lib.hid (fun Y (h : DeepInv w T X G (dT m) (dX even m) (dS m) (yL) #[.int .i64 kt, .string ⟨#[]⟩, .slice none 0 0, .slice none 0 0, .slice At nt et] #[.int .i64 0, .int .i64 kx, .int .i64 zx, .string ⟨#[]⟩, .slice none 0 0, .slice none 0 0, .slice Ax nx ex] #[.int .i64 0, .int .i64 kg, .int .i64 zg, .string ⟨#[]⟩, .slice none 0 0, .slice none 0 0, .slice Ag ng eg] (.slice (some ⟨gl, 0, none⟩) 1 1) Y) => (synStmtsT (dS m) _ Y h.lw.g.gs h.lw.n (h.fl.sub (only_sub _ _)) (of_decide_eq_true HOK.out.zs) (of_decide_eq_true HOK.out.ls)).mono fun e w' r => (show ∃ s, e = .returned (.tuple #[.string s, .int .i64 (ek : Nat)]) ∧ DeepInv w T X G (dT m) (dX even m) (dS m) (yL) #[.int .i64 kt, .string ⟨#[]⟩, .slice none 0 0, .slice none 0 0, .slice At nt et] #[.int .i64 0, .int .i64 kx, .int .i64 zx, .string ⟨#[]⟩, .slice none 0 0, .slice none 0 0, .slice Ax nx ex] #[.int .i64 0, .int .i64 kg, .int .i64 zg, .string ⟨#[]⟩, .slice none 0 0, .slice none 0 0, .slice Ag ng eg] (.slice (some ⟨gl, 0, none⟩) 1 1) w' by obtain ⟨r1, r2⟩ := r; subst r1; exact ⟨_, by rw [HOK.out.s], h.go r2⟩))
          have HLY := Lib.hid (fun Y (h : DeepInv w T X G (dT m) (dX even m) (dS m) (yL) #[.int .i64 kt, .string ⟨#[]⟩, .slice none 0 0, .slice none 0 0, .slice At nt et] #[.int .i64 0, .int .i64 kx, .int .i64 zx, .string ⟨#[]⟩, .slice none 0 0, .slice none 0 0, .slice Ax nx ex] #[.int .i64 0, .int .i64 kg, .int .i64 zg, .string ⟨#[]⟩, .slice none 0 0, .slice none 0 0, .slice Ag ng eg] (.slice (some ⟨gl, 0, none⟩) 1 1) Y) => (synExpr yL _ Y h.lw.g.gs h.lw.n (IsEx.sub (only_sub _ _) _ _ h.fg) (of_decide_eq_true hL2) (of_decide_eq_true hL3)).mono fun e w' r => (show ∃ s, e = .returned (.tuple #[.string s, .int .i64 0]) ∧ DeepInv w T X G (dT m) (dX even m) (dS m) (yL) #[.int .i64 kt, .string ⟨#[]⟩, .slice none 0 0, .slice none 0 0, .slice At nt et] #[.int .i64 0, .int .i64 kx, .int .i64 zx, .string ⟨#[]⟩, .slice none 0 0, .slice none 0 0, .slice Ax nx ex] #[.int .i64 0, .int .i64 kg, .int .i64 zg, .string ⟨#[]⟩, .slice none 0 0, .slice none 0 0, .slice Ag ng eg] (.slice (some ⟨gl, 0, none⟩) 1 1) w' by obtain ⟨r1, r2⟩ := r; subst r1; exact ⟨_, by rw [hL1]; rfl, h.go r2⟩))
          have HDP := Lib.hid (fun Y (h : DeepInv w T X G (dT m) (dX even m) (dS m) (yL) #[.int .i64 kt, .string ⟨#[]⟩, .slice none 0 0, .slice none 0 0, .slice At nt et] #[.int .i64 0, .int .i64 kx, .int .i64 zx, .string ⟨#[]⟩, .slice none 0 0, .slice none 0 0, .slice Ax nx ex] #[.int .i64 0, .int .i64 kg, .int .i64 zg, .string ⟨#[]⟩, .slice none 0 0, .slice none 0 0, .slice Ag ng eg] (.slice (some ⟨gl, 0, none⟩) 1 1) Y) => (synDepth 1000000 [dT m] _ _ (by have := of_decide_eq_true HOK.out.zt; simp [Sx.sizeL]; omega) (Nat.le_refl _) (TyRow.new1 (IsTy.sub (only_sub _ _) _ _ h.ft))).mono fun e w' r => (show e = .returned (.int .i64 (64 + d)) ∧ DeepInv w T X G (dT m) (dX even m) (dS m) (yL) #[.int .i64 kt, .string ⟨#[]⟩, .slice none 0 0, .slice none 0 0, .slice At nt et] #[.int .i64 0, .int .i64 kx, .int .i64 zx, .string ⟨#[]⟩, .slice none 0 0, .slice none 0 0, .slice Ax nx ex] #[.int .i64 0, .int .i64 kg, .int .i64 zg, .string ⟨#[]⟩, .slice none 0 0, .slice none 0 0, .slice Ag ng eg] (.slice (some ⟨gl, 0, none⟩) 1 1) w' from ⟨by rw [r.1, HOK.out.d]; have := HK.out; congr 2; omega, (h.go (grown_below (World.grownBy_alloc Y _ none))).go r.2⟩))
          have HRU := Lib.hid (fun Y (h : DeepInv w T X G (dT m) (dX even m) (dS m) (yL) #[.int .i64 kt, .string ⟨#[]⟩, .slice none 0 0, .slice none 0 0, .slice At nt et] #[.int .i64 0, .int .i64 kx, .int .i64 zx, .string ⟨#[]⟩, .slice none 0 0, .slice none 0 0, .slice Ax nx ex] #[.int .i64 0, .int .i64 kg, .int .i64 zg, .string ⟨#[]⟩, .slice none 0 0, .slice none 0 0, .slice Ag ng eg] (.slice (some ⟨gl, 0, none⟩) 1 1) Y) => HRUN.out.at h.lw)
          clear h2 hL1 hL2 hL3 hyL INVT
          have hdc : (ek = 0 ∧ d = -1) ∨ (ek = 0 ∧ d = 0) ∨ (ek = 1 ∧ d = 1) := by have := HDE.out; omega
          have hd64 : IntKind.i64.wrap (64 + d) = 64 + d := by rw [IntKind.wrap_i64]; omega
          rcases hdc with ⟨rfl, rfl⟩ | ⟨rfl, rfl⟩ | ⟨rfl, rfl⟩
          all_goals
            go_wp2_with (first
              | (go_at_call 14; with_reducible refine (HTY.out _ HH.out).mono ?_; rintro e wa ⟨sa, rfl, hh⟩; have Ha := Lib.hid hh; clear hh t0 t1 t2 t3 t4 x0 x1 x2 x3 x4 x5 x6 g0 g1 g2 g3 g4 g5 g6 l1 l2 l3; obtain ⟨x0, x1, x2, x3, x4, x5, x6⟩ := seven_cells Ha.out.kx; obtain ⟨l1, l2, l3⟩ := Ha.out.lt)
              | (go_at_call 23; with_reducible refine (HXY.out _ Ha.out).mono ?_; rintro e wb ⟨sb, rfl, hh⟩; have Hb := Lib.hid hh; clear hh x0 x1 x2 x3 x4 x5 x6 l1 l2 l3)
              | (go_at_call 24; with_reducible refine (HSY.out _ Hb.out).mono ?_; rintro e wc ⟨sc, rfl, hh⟩; have Hc := Lib.hid hh; clear hh; obtain ⟨g0, g1, g2, g3, g4, g5, g6⟩ := seven_cells Hc.out.kg; obtain ⟨l1, l2, l3⟩ := Hc.out.lt)
              | (go_at_call 23; with_reducible refine (HLY.out _ Hc.out).mono ?_; rintro e wd ⟨sd, rfl, hh⟩; have Hd := Lib.hid hh; clear hh g0 g1 g2 g3 g4 g5 g6 l1 l2 l3; obtain ⟨t0, t1, t2, t3, t4⟩ := five_cells Hd.out.kt; obtain ⟨l1, l2, l3⟩ := Hd.out.lt)
              | (go_at_call 18; refine (HDP.out _ Hd.out).mono ?_; rintro e we ⟨rfl, hh⟩; have He := Lib.hid hh; clear hh t0 t1 t2 t3 t4 l1 l2 l3)
              | (go_at_call 3; with_reducible refine (HRU.out _ He.out).mono ?_; rintro e wf ⟨rfl, hf⟩))
            go_ret
            exact ⟨rfl, hf⟩

end Go.Proofs.YtdncljdfmdgdaaaGreatDoor
