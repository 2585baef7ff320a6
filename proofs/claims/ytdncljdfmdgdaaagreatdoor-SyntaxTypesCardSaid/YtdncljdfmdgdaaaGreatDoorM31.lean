/-
  The walks of rightStmt, rightStmts.
-/
/-
 The walks of rightStmt, rightStmts.
-/
import Derived.Test.YtdncljdfmdgdaaaGreatDoorM18
import Derived.Test.YtdncljdfmdgdaaaGreatDoorM22
namespace Go.Proofs.YtdncljdfmdgdaaaGreatDoor
open Go.RowKit Go.Shelf Go.WideMaps
set_option linter.unusedSimpArgs false
set_option linter.unusedVariables false
structure Held1 (L : Nat) (W : World) (cs : Array Value) (t : TypeId) (w : World) : Prop where
 b : Below L W w
 b1 : w.heap[L]? = some (.cells cs t (0, 0))
theorem Held1.go {L : Nat} {W w w' : World} {cs : Array Value} {t : TypeId} (h : Held1 L W cs t w) (hb : Below w.heap.size w w') : Held1 L W cs t w' :=
 ⟨h.b.trans (hb.mono (Nat.le_of_lt (zaZ h.b1))), (hb.block _ (zaZ h.b1)).trans h.b1⟩
def RightSOk (d : Nat) (s : Sx.St) : Prop := ∀ (v : Value) (W : World), GS W → NG ≤ W.heap.size → IsSt W v s → Sx.sizeS s ≤ 1000000 →
 Calls Tryz.prog 120 #[v, .int .i64 (d : Nat)] W fun e W' => e = .returned (.bool (Sx.rightS NM d s)) ∧ Below W.heap.size W W'
def RightSsOk (d : Nat) (l : List Sx.St) : Prop := ∀ (v : Value) (W : World), GS W → NG ≤ W.heap.size → StRow W v l → Sx.sizeSs l ≤ 1000000 →
 Calls Tryz.prog 65 #[v, .int .i64 (d : Nat)] W fun e W' => e = .returned (.bool (Sx.rightSs NM d l)) ∧ Below W.heap.size W W'
theorem Sx.rightSs_snoc (N : Sx.Names) (d : Nat) : ∀ (l : List Sx.St) (x : Sx.St), Sx.rightSs N d (l ++ [x]) = (Sx.rightSs N d l && Sx.rightS N d x)
 | [], x => by simp [Sx.rightSs]
 | y :: l, x => by
  rw [List.cons_append, Sx.rightSs, Sx.rightSs, Sx.rightSs_snoc N d l x]
  simp [Bool.and_assoc]
theorem Sx.rightSs_pre (N : Sx.Names) (d : Nat) : ∀ (l m : List Sx.St), Sx.rightSs N d l = false → Sx.rightSs N d (l ++ m) = false
 | [], m, h => by simp [Sx.rightSs] at h
 | y :: l, m, h => by
  rw [List.cons_append, Sx.rightSs]
  rw [Sx.rightSs] at h
  cases hy : Sx.rightS N d y with
  | false => rfl
  | true =>
   rw [hy] at h
   rw [Sx.rightSs_pre N d l m (by simpa using h)]
   rfl
set_option maxRecDepth 100000 in
set_option maxHeartbeats 4000000 in
theorem zdaZ (d : Nat) (hd : d ≤ 64) (l : List Sx.St) (ih : ∀ s ∈ l, RightSOk d s) : RightSsOk d l := by
 intro v W hG hN ht0 hsz
 have hxl := Sx.length_sizeSs l
 obtain ⟨A, c, rfl, hcap, hrow⟩ := ht0
 have ht : StRow W (.slice A l.length c) l := ⟨A, c, rfl, hcap, hrow⟩
 obtain ⟨k, hk⟩ : ∃ k, l.length = k := ⟨_, rfl⟩
 rw [hk] at ht ⊢
 have hki : (k : Int) ≤ 1000000 := by omega
 have hk0 : (0 : Int) ≤ (k : Int) := by omega
 obtain ⟨e, he⟩ : ∃ e : Int, (d : Int) = e := ⟨_, rfl⟩
 rw [he]
 have HK := Lib.hid hk
 have HP := Lib.hid ht
 have HIH := Lib.hid ih
 have HG := Lib.hid hG
 have HN := Lib.hid hN
 have HE := Lib.hid he
 have HZ := Lib.hid hsz
 obtain ⟨L, hL⟩ : ∃ L, W.heap.size = L := ⟨_, rfl⟩
 have HL := Lib.hid hL
 clear hG hN ht hk ih he hxl hcap hrow hL hsz
 go_enter Tryz.func65, Tryz.ntmps65
 go_wp2_with fail
 go_loopg [9] k (fun i v wr => ∃ (m : Nat), i = k - m ∧ v = .int .i64 (m : Int) ∧ m ≤ k ∧ Below L W wr ∧ Sx.rightSs NM d (l.take m) = true)
 case atStart => exact ⟨0, rfl, rfl, Nat.zero_le _, Below.refl _ _, by simp [Sx.rightSs]⟩
 case round =>
  obtain ⟨m, hi, rfl, hmk, hwr, hall⟩ := hrel
  have HI := Lib.hid hi
  have HW := Lib.hid hwr
  have HALL := Lib.hid hall
  have hLs : L ≤ wr.heap.size := by have := hwr.size; have := HL.out; omega
  have m0 : (0 : Int) ≤ (m : Int) := by omega
  clear hi hwr hall
  by_cases hlt : m < k
  ·have hmi : (m : Int) < (k : Int) := by omega
   have hmp : m < l.length := by have := HK.out; omega
   obtain ⟨g, off, At1, ct1, Ax1, cx1, Ab1, cb1, Ae1, ce1, rfl, hty, hc7⟩ := HP.out.spot m hmp
   rw [HL.out] at hc7
   obtain ⟨hg, c0, c1, c2, c3, c4, c5, c6⟩ := hc7 wr HW.out
   have htk := List.take_succ_eq_append_getElem hmp
   obtain ⟨p, hpe⟩ : ∃ p, l[m]'hmp = p := ⟨_, rfl⟩
   have hmem : p ∈ l := by rw [← hpe]; exact List.getElem_mem hmp
   rw [hpe] at c0 c1 c2 c3 c4 c5 c6 htk hty
   have hpz : Sx.sizeS p ≤ 1000000 := by have := Sx.sizeS_mem hmem; have := HZ.out; omega
   have hstep := Sx.rightSs_snoc NM d (l.take m) p
   rw [HALL.out, ← htk] at hstep
   have hmore := Sx.rightSs_pre NM d (l.take (m + 1)) (l.drop (m + 1))
   rw [List.take_append_drop] at hmore
   obtain ⟨w9, hw9⟩ : ∃ w9, wr.alloc (.cells #[.int .i64 p.pos, .int .i64 p.kind, .string ⟨p.name.toArray⟩, .slice At1 p.t.length ct1, .slice Ax1 p.x.length cx1, .slice Ab1 p.body.length cb1, .slice Ae1 p.els.length ce1] 69) = w9 := ⟨_, rfl⟩
   have hbox9 : w9.heap[wr.heap.size]? = some (.cells #[.int .i64 p.pos, .int .i64 p.kind, .string ⟨p.name.toArray⟩, .slice At1 p.t.length ct1, .slice Ax1 p.x.length cx1, .slice Ab1 p.body.length cb1, .slice Ae1 p.els.length ce1] 69 (0, 0)) := by rw [← hw9]; exact heap_alloc_new wr _
   have hb9 : Below L W w9 := HW.out.trans ((by rw [← hw9]; exact zdZ (World.grownBy_alloc wr _ none) : Below wr.heap.size wr w9).mono hLs)
   have hre : Calls Tryz.prog 120 #[.agg #[.int .i64 p.pos, .int .i64 p.kind, .string ⟨p.name.toArray⟩, .slice At1 p.t.length ct1, .slice Ax1 p.x.length cx1, .slice Ab1 p.body.length cb1, .slice Ae1 p.els.length ce1], .int .i64 e] w9 fun e X' => e = .returned (.bool (Sx.rightS NM d p)) ∧ Below w9.heap.size w9 X' := by
    rw [← HE.out]
    have hB : Below W.heap.size W w9 := by rw [HL.out]; exact hb9
    exact HIH.out p hmem _ w9 (HG.out.below hB) (Nat.le_trans HN.out hB.size) (IsSt.below hB p _ hty) hpz
   have HRE := Lib.hid hre
   have HB9 := Lib.hid hb9
   have HSTEP := Lib.hid hstep
   have HMORE := Lib.hid hmore
   obtain ⟨z0, z1, z2, z3, z4, z5, z6⟩ := zbZ hbox9
   have hl9 := zaZ hbox9
   have hls9 : L ≤ w9.heap.size := by omega
   clear hre hstep hmore htk hc7 hty hpe hmem hpz hbox9 hb9
   cases hr : Sx.rightS NM d p with
   | true =>
    rw [hr] at HRE HSTEP
    clear hr
    go_wp2_with (go_at_call 120; refine HRE.out.mono ?_; rintro e w11 ⟨rfl, hb11⟩)
    have H11 := Lib.hid (HB9.out.trans (hb11.mono hls9))
    clear hb11
    go_roundg (k - (m + 1))
    case measure => have := HI.out; omega
    case rel => exact ⟨m + 1, rfl, by simp, hlt, H11.out, HSTEP.out⟩
   | false =>
    rw [hr] at HRE HSTEP
    have HF := Lib.hid (HMORE.out HSTEP.out)
    clear hr
    go_wp2_with (go_at_call 120; refine HRE.out.mono ?_; rintro e w11 ⟨rfl, hb11⟩)
    have H11 := Lib.hid (HB9.out.trans (hb11.mono hls9))
    clear hb11
    go_ret
    rw [HF.out, HL.out]
    exact ⟨rfl, H11.out⟩
  ·have hmi : ¬ (m : Int) < (k : Int) := by omega
   have HF := Lib.hid (show Sx.rightSs NM d l = true by
    have h := HALL.out
    rwa [List.take_of_length_le (by have := HK.out; omega)] at h)
   go_wp2_with fail
   go_ret
   rw [HF.out, HL.out]
   exact ⟨rfl, HW.out⟩
def Sx.restS (k : Int) (sm nE : Bool) (tl : Nat) (rt : Bool) (bl el : Nat) (rb re : Bool) : Bool :=
 decide (1 ≤ k ∧ k ≤ 7) && ((if k = 1 ∨ k = 2 then sm else nE) && ((decide (tl = 0) || (decide (k = 1) && (decide (tl = 1) && rt))) && ((decide (k = 4 ∨ k = 5) || decide (bl = 0)) && ((decide (k = 4) || decide (el = 0)) && (rb && re)))))
def Sx.head0 (x : List Sx.Ex) : Bool := match x with | [] => true | p :: _ => Sx.rightX NM 64 p
theorem Sx.head0_at : ∀ (x : List Sx.Ex) (h : 0 < x.length), Sx.rightX NM 64 (x[0]'h) = Sx.head0 x
 | a :: l, h => rfl
theorem Sx.isE {α : Type} (l : List α) : l.isEmpty = decide (l.length = 0) := by cases l <;> simp
theorem Sx.rightS_eq (d : Nat) (s : Sx.St) : Sx.rightS NM d s = (decide (d ≠ 0) && (decide (s.x.length = 1) && (Sx.head0 s.x && Sx.restS s.kind (NM.small s.name) s.name.isEmpty s.t.length (Sx.right0 s.t) s.body.length s.els.length (Sx.rightSs NM (d - 1) s.body) (Sx.rightSs NM (d - 1) s.els)))) := by
 cases s with
 | mk pos k nm t x b e =>
  cases d with
  | zero => simp [Sx.rightS]
  | succ d =>
   rw [Sx.rightS]
   show _ = (decide (d + 1 ≠ 0) && (decide (x.length = 1) && (Sx.head0 x && Sx.restS k (NM.small nm) nm.isEmpty t.length (Sx.right0 t) b.length e.length (Sx.rightSs NM (d + 1 - 1) b) (Sx.rightSs NM (d + 1 - 1) e))))
   unfold Sx.shapeS Sx.restS
   rw [Sx.isE b, Sx.isE e, Sx.isE t]
   have hx : (x.length == 1 && Sx.rightXs NM 64 64 x) = (decide (x.length = 1) && Sx.head0 x) := by
    match x with
    | [] => simp
    | [a] => simp [Sx.rightXs, Sx.head0]
    | a :: c :: l => simp
   have ht : (decide (t.length = 0) || (decide (k = 1) && (t.length == 1 && Sx.rightTs NM 64 t))) = (decide (t.length = 0) || (decide (k = 1) && (decide (t.length = 1) && Sx.right0 t))) := by
    match t with
    | [] => simp
    | [a] => simp [Sx.rightTs, Sx.right0]
    | a :: c :: l => simp
   rw [hx, ht]
   simp [Bool.and_assoc]
   cases decide (x.length = 1) <;> cases Sx.head0 x <;> simp
set_option maxRecDepth 100000 in
set_option maxHeartbeats 16000000 in
theorem zjcZ (d : Nat) (hd : d ≤ 64) (s : Sx.St) (ihb : ∀ d, d ≤ 64 → RightSsOk d s.body) (ihe : ∀ d, d ≤ 64 → RightSsOk d s.els) : RightSOk d s := by
 intro v W hG hN ht0 hsz
 obtain ⟨At, ct, Ax, cx, Ab, cb, Ae, ce, rfl, htt, hxx, hbb, hee⟩ := ht0.agg
 have hsp := Sx.sizeS_parts s
 have hxl := Sx.length_sizeXs s.x
 have htyl := Sx.length_size s.t
 have hbl := Sx.length_sizeSs s.body
 have hel := Sx.length_sizeSs s.els
 have hrx := Sx.rightS_eq d s
 have hTY := fun (p : Sx.Ty) (hp : p ∈ s.t) u X hX hu => zcuZ 64 (by omega) p u X (hG.below hX) (Nat.le_trans hN hX.size) hu (by have := Sx.size_mem hp; omega)
 have hEX := fun (p : Sx.Ex) (hp : p ∈ s.x) u X hX hu => zcfZ _ p (Nat.le_refl _) 64 (by omega) u X (hG.below hX) (Nat.le_trans hN hX.size) hu (by have := Sx.sizeX_mem hp; omega)
 have hNA := fun X (hX : Below W.heap.size W X) => synName s.name X (hG.below hX) (Nat.le_trans hN hX.size) (by omega)
 obtain ⟨e, he⟩ : ∃ e : Int, (d : Int) = e := ⟨_, rfl⟩
 have hBO : ∀ X, Below W.heap.size W X → 1 ≤ d → Calls Tryz.prog 65 #[.slice Ab s.body.length cb, .int .i64 (e - 1)] X fun e X' => e = .returned (.bool (Sx.rightSs NM (d - 1) s.body)) ∧ Below X.heap.size X X' := fun X hX h1 => by
  rw [show e - 1 = ((d - 1 : Nat) : Int) by omega]
  exact ihb (d - 1) (by omega) _ X (hG.below hX) (Nat.le_trans hN hX.size) (hbb.below hX) (by omega)
 have hEL : ∀ X, Below W.heap.size W X → 1 ≤ d → Calls Tryz.prog 65 #[.slice Ae s.els.length ce, .int .i64 (e - 1)] X fun e X' => e = .returned (.bool (Sx.rightSs NM (d - 1) s.els)) ∧ Below X.heap.size X X' := fun X hX h1 => by
  rw [show e - 1 = ((d - 1 : Nat) : Int) by omega]
  exact ihe (d - 1) (by omega) _ X (hG.below hX) (Nat.le_trans hN hX.size) (hee.below hX) (by omega)
 obtain ⟨sm, hsm⟩ : ∃ b, NM.small s.name = b := ⟨_, rfl⟩
 obtain ⟨nE, hnE⟩ : ∃ b, s.name.isEmpty = b := ⟨_, rfl⟩
 obtain ⟨rt, hrt⟩ : ∃ b, Sx.right0 s.t = b := ⟨_, rfl⟩
 obtain ⟨rx, hrx0⟩ : ∃ b, Sx.head0 s.x = b := ⟨_, rfl⟩
 obtain ⟨rb, hrb⟩ : ∃ b, Sx.rightSs NM (d - 1) s.body = b := ⟨_, rfl⟩
 obtain ⟨re, hre⟩ : ∃ b, Sx.rightSs NM (d - 1) s.els = b := ⟨_, rfl⟩
 rw [hsm, hnE, hrt, hrx0, hrb, hre] at hrx
 rw [hsm] at hNA
 rw [hrb] at hBO
 rw [hre] at hEL
 have hT0 : ∀ (h : 0 < s.t.length), Sx.rightT NM 64 (s.t[0]'h) = rt := fun h => by rw [← hrt]; exact Sx.right0_head _ h
 have hX0 : ∀ (h : 0 < s.x.length), Sx.rightX NM 64 (s.x[0]'h) = rx := fun h => by rw [← hrx0]; exact Sx.head0_at _ h
 obtain ⟨kd, hkd⟩ : ∃ kd, s.kind = kd := ⟨_, rfl⟩
 obtain ⟨tl, htl⟩ : ∃ k, s.t.length = k := ⟨_, rfl⟩
 obtain ⟨xl, hxl'⟩ : ∃ k, s.x.length = k := ⟨_, rfl⟩
 obtain ⟨bl, hbl'⟩ : ∃ k, s.body.length = k := ⟨_, rfl⟩
 obtain ⟨el, hel'⟩ : ∃ k, s.els.length = k := ⟨_, rfl⟩
 have b1 : (tl : Int) ≤ 1000000 := by omega
 have b2 : (xl : Int) ≤ 1000000 := by omega
 have b3 : (bl : Int) ≤ 1000000 := by omega
 have b4 : (el : Int) ≤ 1000000 := by omega
 have b5 : (0 : Int) ≤ (tl : Int) := by omega
 have b6 : (0 : Int) ≤ (xl : Int) := by omega
 have b7 : (0 : Int) ≤ (bl : Int) := by omega
 have b8 : (0 : Int) ≤ (el : Int) := by omega
 have he0 : (0 : Int) ≤ e := by omega
 have he64 : e ≤ 64 := by omega
 rw [hkd, htl, hxl', hbl', hel'] at hrx
 rw [he, hkd, htl, hxl', hbl', hel']
 rw [htl] at htt
 rw [hxl'] at hxx
 rw [hbl'] at hBO
 rw [hel'] at hEL
 have HTY := Lib.hid hTY
 have HEX := Lib.hid hEX
 have HNA := Lib.hid hNA
 have HBO := Lib.hid hBO
 have HEL := Lib.hid hEL
 have HT0 := Lib.hid hT0
 have HX0 := Lib.hid hX0
 have HTT := Lib.hid htt
 have HXX := Lib.hid hxx
 have HRX := Lib.hid hrx
 have HTL := Lib.hid htl
 have HXL := Lib.hid hxl'
 have HE := Lib.hid he
 have HNE := Lib.hid hnE
 have HSM := Lib.hid hsm
 obtain ⟨L, hL⟩ : ∃ L, W.heap.size = L := ⟨_, rfl⟩
 obtain ⟨w2, hw2⟩ : ∃ w2, W.alloc (.cells #[.int .i64 s.pos, .int .i64 kd, .string ⟨s.name.toArray⟩, .slice At tl ct, .slice Ax xl cx, .slice Ab bl cb, .slice Ae el ce] 69) = w2 := ⟨_, rfl⟩
 have hlv : Held1 L W #[.int .i64 s.pos, .int .i64 kd, .string ⟨s.name.toArray⟩, .slice At tl ct, .slice Ax xl cx, .slice Ab bl cb, .slice Ae el ce] 69 w2 := ⟨by rw [← hw2, ← hL]; exact zdZ (World.grownBy_alloc W _ none), by rw [← hw2, ← hL]; exact heap_alloc_new W _⟩
 have H2 := Lib.hid hlv
 have HL := Lib.hid hL
 clear hlv hTY hEX hNA hBO hEL hT0 hX0 htt hxx hbb hee hrx htl hxl' hbl' hel' he ht0 hsz hsp hxl htyl hbl hel hsm hnE hrt hrx0 hrb hre hkd hG hN ihb ihe hd
 obtain ⟨x0, x1, x2, x3, x4, x5, x6⟩ := zbZ H2.out.b1
 have hl1 := zaZ H2.out.b1
 have h6 := HL.out
 by_cases hd0 : d = 0
 ·obtain rfl : e = 0 := by have := HE.out; omega
  go_enter Tryz.func120, Tryz.ntmps120
  go_wp2_with fail
  go_ret
  rw [HRX.out]
  try rw [HL.out]
  exact ⟨by simp [Sx.restS, hd0], H2.out.b⟩
 have e0 : (e == 0) = false := by rw [beq_eq_false_iff_ne]; have := HE.out; omega
 have he1 : 1 ≤ e := by have := HE.out; omega
 have hd1 : 1 ≤ d := by omega
 by_cases hx1 : xl = 1
 rotate_left
 ·have hxn : ((xl : Int) != 1) = true := by rw [bne_iff_ne]; omega
  have hx1i : ¬ (xl : Int) = 1 := by omega
  go_enter Tryz.func120, Tryz.ntmps120
  go_wp2_with fail
  go_ret
  rw [HRX.out]
  try rw [HL.out]
  exact ⟨by simp [Sx.restS, hx1], H2.out.b⟩
 subst hx1
 have hxp : 0 < s.x.length := by have := HXL.out; omega
 obtain ⟨gX, offX, AtX, ctX, AnX, cnX, AqX, cqX, rfl, htyX, hcX⟩ := HXX.out.spot 0 hxp
 rw [HL.out] at hcX
 obtain ⟨dgX, q0, q1, q2, q3, q4, q5, q6⟩ := hcX _ H2.out.b
 rw [Nat.zero_mul, Nat.add_zero] at q0 q1 q2 q3 q4 q5 q6
 have hrrX := HEX.out _ (List.getElem_mem hxp) _ _ (by rw [HL.out]; exact H2.out.b) (IsEx.below (by rw [HL.out]; exact H2.out.b) _ _ htyX)
 rw [HX0.out hxp] at hrrX
 obtain ⟨pX, hpX⟩ : ∃ p, s.x[0]'hxp = p := ⟨_, rfl⟩
 rw [hpX] at q0 q1 q2 q3 q4 q5 q6 hrrX
 have HRRX := Lib.hid hrrX
 clear hcX htyX hrrX hpX
 cases rx with
 | false =>
  go_enter Tryz.func120, Tryz.ntmps120
  go_wp2_with (go_at_call 63; refine HRRX.out.mono ?_; rintro e w3 ⟨rfl, hb3⟩; have H3 := Lib.hid (H2.out.go hb3); clear hb3; clear x0 x1 x2 x3 x4 x5 x6 hl1; obtain ⟨x0, x1, x2, x3, x4, x5, x6⟩ := zbZ H3.out.b1; have hl1 := zaZ H3.out.b1)
  go_ret
  rw [HRX.out]
  try rw [HL.out]
  exact ⟨by simp [Sx.restS], H3.out.b⟩
 | true =>
  go_enter Tryz.func120, Tryz.ntmps120
  go_upto_region 3 with (go_at_call 63; refine HRRX.out.mono ?_; rintro e w3 ⟨rfl, hb3⟩; have H3 := Lib.hid (H2.out.go hb3); clear hb3; clear x0 x1 x2 x3 x4 x5 x6 hl1; obtain ⟨x0, x1, x2, x3, x4, x5, x6⟩ := zbZ H3.out.b1; have hl1 := zaZ H3.out.b1)
  clear q0 q1 q2 q3 q4 q5 q6 dgX
  have HNAW := Lib.hid (HNA.out _ (by rw [HL.out]; exact H3.out.b))
  have HBOW := fun (X : World) (hX : Below L W X) => HBO.out X (by rw [HL.out]; exact hX) hd1
  have HELW := fun (X : World) (hX : Below L W X) => HEL.out X (by rw [HL.out]; exact hX) hd1
  have HBW := Lib.hid HBOW
  have HEW := Lib.hid HELW
  clear HBOW HELW
  by_cases hk1 : kd = 1
  ·subst hk1
   cases nE with
   | true =>
    have hne := HNE.out
    have hsmF : sm = false := by
     cases sm with
     | false => rfl
     | true => exact absurd (List.isEmpty_iff.1 hne) (NM.ok.small _ HSM.out)
    subst hsmF
    go_wp2_with fail
    go_ret
    rw [HRX.out]
    try rw [HL.out]
    exact ⟨by simp [Sx.restS, hd0], H3.out.b⟩
   | false =>
    have hne := HNE.out
    cases sm with
    | true =>
     rcases Nat.eq_zero_or_pos tl with hztl | hztl
     ·subst hztl
      rcases Nat.eq_zero_or_pos bl with hzbl | hzbl
      ·subst hzbl
       rcases Nat.eq_zero_or_pos el with hzel | hzel
       ·subst hzel
        cases rb with
        | true =>
         cases re with
         | true =>
          go_wp2_with (first | (go_at_call 132; refine HNAW.out.mono ?_; rintro e w4 ⟨rfl, hb4⟩; have H4 := Lib.hid (H3.out.go hb4); clear hb4; clear x0 x1 x2 x3 x4 x5 x6 hl1; obtain ⟨x0, x1, x2, x3, x4, x5, x6⟩ := zbZ H4.out.b1; have hl1 := zaZ H4.out.b1) | (go_at_call 65; (with_reducible refine (HBW.out _ H4.out.b).mono ?_); rintro e w5 ⟨rfl, hb5⟩; have H5 := Lib.hid (H4.out.go hb5); clear hb5; clear x0 x1 x2 x3 x4 x5 x6 hl1; obtain ⟨x0, x1, x2, x3, x4, x5, x6⟩ := zbZ H5.out.b1; have hl1 := zaZ H5.out.b1) | (go_at_call 65; (with_reducible refine (HEW.out _ H5.out.b).mono ?_); rintro e w6 ⟨rfl, hb6⟩; have H6 := Lib.hid (H5.out.go hb6); clear hb6))
          go_ret
          rw [HRX.out]
          try rw [HL.out]
          exact ⟨by simp [Sx.restS, hd0], H6.out.b⟩
         | false =>
          go_wp2_with (first | (go_at_call 132; refine HNAW.out.mono ?_; rintro e w4 ⟨rfl, hb4⟩; have H4 := Lib.hid (H3.out.go hb4); clear hb4; clear x0 x1 x2 x3 x4 x5 x6 hl1; obtain ⟨x0, x1, x2, x3, x4, x5, x6⟩ := zbZ H4.out.b1; have hl1 := zaZ H4.out.b1) | (go_at_call 65; (with_reducible refine (HBW.out _ H4.out.b).mono ?_); rintro e w5 ⟨rfl, hb5⟩; have H5 := Lib.hid (H4.out.go hb5); clear hb5; clear x0 x1 x2 x3 x4 x5 x6 hl1; obtain ⟨x0, x1, x2, x3, x4, x5, x6⟩ := zbZ H5.out.b1; have hl1 := zaZ H5.out.b1) | (go_at_call 65; (with_reducible refine (HEW.out _ H5.out.b).mono ?_); rintro e w6 ⟨rfl, hb6⟩; have H6 := Lib.hid (H5.out.go hb6); clear hb6))
          go_ret
          rw [HRX.out]
          try rw [HL.out]
          exact ⟨by simp [Sx.restS, hd0], H6.out.b⟩
        | false =>
         go_wp2_with (first | (go_at_call 132; refine HNAW.out.mono ?_; rintro e w4 ⟨rfl, hb4⟩; have H4 := Lib.hid (H3.out.go hb4); clear hb4; clear x0 x1 x2 x3 x4 x5 x6 hl1; obtain ⟨x0, x1, x2, x3, x4, x5, x6⟩ := zbZ H4.out.b1; have hl1 := zaZ H4.out.b1) | (go_at_call 65; (with_reducible refine (HBW.out _ H4.out.b).mono ?_); rintro e w5 ⟨rfl, hb5⟩; have H5 := Lib.hid (H4.out.go hb5); clear hb5; clear x0 x1 x2 x3 x4 x5 x6 hl1; obtain ⟨x0, x1, x2, x3, x4, x5, x6⟩ := zbZ H5.out.b1; have hl1 := zaZ H5.out.b1))
         go_ret
         rw [HRX.out]
         try rw [HL.out]
         exact ⟨by simp [Sx.restS, hd0], H5.out.b⟩
       ·have hyel : (0 : Int) < (el : Int) := by omega
        have hwel : ¬ el = 0 := by omega
        go_wp2_with (first | (go_at_call 132; refine HNAW.out.mono ?_; rintro e w4 ⟨rfl, hb4⟩; have H4 := Lib.hid (H3.out.go hb4); clear hb4; clear x0 x1 x2 x3 x4 x5 x6 hl1; obtain ⟨x0, x1, x2, x3, x4, x5, x6⟩ := zbZ H4.out.b1; have hl1 := zaZ H4.out.b1))
        go_ret
        rw [HRX.out]
        try rw [HL.out]
        exact ⟨by simp [Sx.restS, hd0, hwel], H4.out.b⟩
      ·have hybl : (0 : Int) < (bl : Int) := by omega
       have hwbl : ¬ bl = 0 := by omega
       go_wp2_with (first | (go_at_call 132; refine HNAW.out.mono ?_; rintro e w4 ⟨rfl, hb4⟩; have H4 := Lib.hid (H3.out.go hb4); clear hb4; clear x0 x1 x2 x3 x4 x5 x6 hl1; obtain ⟨x0, x1, x2, x3, x4, x5, x6⟩ := zbZ H4.out.b1; have hl1 := zaZ H4.out.b1))
       go_ret
       rw [HRX.out]
       try rw [HL.out]
       exact ⟨by simp [Sx.restS, hd0, hwbl], H4.out.b⟩
     ·by_cases ht1 : tl = 1
      ·subst ht1
       have htp : 0 < s.t.length := by have := HTL.out; omega
       obtain ⟨gT, offT, AnT, cnT, AeT, ceT, AqT, cqT, rfl, htyT, hcT⟩ := HTT.out.spot 0 htp
       rw [HL.out] at hcT
       have HHT := Lib.hid htyT
       have HCT := Lib.hid hcT
       have HTP := Lib.hid (fun X (hX : Below L W X) => HTY.out _ (List.getElem_mem htp) _ X (by rw [HL.out]; exact hX) (HHT.out.below (by rw [HL.out]; exact hX)))
       rw [HT0.out htp] at HTP
       obtain ⟨pT, hpT⟩ : ∃ p, s.t[0]'htp = p := ⟨_, rfl⟩
       rw [hpT] at HCT HTP
       clear htyT hcT hpT
       cases rt with
       | true =>
        rcases Nat.eq_zero_or_pos bl with hzbl | hzbl
        ·subst hzbl
         rcases Nat.eq_zero_or_pos el with hzel | hzel
         ·subst hzel
          cases rb with
          | true =>
           cases re with
           | true =>
            go_wp2_with (first | (go_at_call 132; refine HNAW.out.mono ?_; rintro e w4 ⟨rfl, hb4⟩; have H4 := Lib.hid (H3.out.go hb4); clear hb4; clear x0 x1 x2 x3 x4 x5 x6 hl1; obtain ⟨x0, x1, x2, x3, x4, x5, x6⟩ := zbZ H4.out.b1; have hl1 := zaZ H4.out.b1; obtain ⟨dgT, r0, r1, r2, r3, r4⟩ := HCT.out _ H4.out.b; rw [Nat.zero_mul, Nat.add_zero] at r0 r1 r2 r3 r4) | (go_at_call 58; refine (HTP.out _ H4.out.b).mono ?_; rintro e w5 ⟨rfl, hb5⟩; have H5 := Lib.hid (H4.out.go hb5); clear hb5 r0 r1 r2 r3 r4 dgT; clear x0 x1 x2 x3 x4 x5 x6 hl1; obtain ⟨x0, x1, x2, x3, x4, x5, x6⟩ := zbZ H5.out.b1; have hl1 := zaZ H5.out.b1) | (go_at_call 65; (with_reducible refine (HBW.out _ H5.out.b).mono ?_); rintro e w6 ⟨rfl, hb6⟩; have H6 := Lib.hid (H5.out.go hb6); clear hb6; clear x0 x1 x2 x3 x4 x5 x6 hl1; obtain ⟨x0, x1, x2, x3, x4, x5, x6⟩ := zbZ H6.out.b1; have hl1 := zaZ H6.out.b1) | (go_at_call 65; (with_reducible refine (HEW.out _ H6.out.b).mono ?_); rintro e w7 ⟨rfl, hb7⟩; have H7 := Lib.hid (H6.out.go hb7); clear hb7))
            go_ret
            rw [HRX.out]
            try rw [HL.out]
            exact ⟨by simp [Sx.restS, hd0], H7.out.b⟩
           | false =>
            go_wp2_with (first | (go_at_call 132; refine HNAW.out.mono ?_; rintro e w4 ⟨rfl, hb4⟩; have H4 := Lib.hid (H3.out.go hb4); clear hb4; clear x0 x1 x2 x3 x4 x5 x6 hl1; obtain ⟨x0, x1, x2, x3, x4, x5, x6⟩ := zbZ H4.out.b1; have hl1 := zaZ H4.out.b1; obtain ⟨dgT, r0, r1, r2, r3, r4⟩ := HCT.out _ H4.out.b; rw [Nat.zero_mul, Nat.add_zero] at r0 r1 r2 r3 r4) | (go_at_call 58; refine (HTP.out _ H4.out.b).mono ?_; rintro e w5 ⟨rfl, hb5⟩; have H5 := Lib.hid (H4.out.go hb5); clear hb5 r0 r1 r2 r3 r4 dgT; clear x0 x1 x2 x3 x4 x5 x6 hl1; obtain ⟨x0, x1, x2, x3, x4, x5, x6⟩ := zbZ H5.out.b1; have hl1 := zaZ H5.out.b1) | (go_at_call 65; (with_reducible refine (HBW.out _ H5.out.b).mono ?_); rintro e w6 ⟨rfl, hb6⟩; have H6 := Lib.hid (H5.out.go hb6); clear hb6; clear x0 x1 x2 x3 x4 x5 x6 hl1; obtain ⟨x0, x1, x2, x3, x4, x5, x6⟩ := zbZ H6.out.b1; have hl1 := zaZ H6.out.b1) | (go_at_call 65; (with_reducible refine (HEW.out _ H6.out.b).mono ?_); rintro e w7 ⟨rfl, hb7⟩; have H7 := Lib.hid (H6.out.go hb7); clear hb7))
            go_ret
            rw [HRX.out]
            try rw [HL.out]
            exact ⟨by simp [Sx.restS, hd0], H7.out.b⟩
          | false =>
           go_wp2_with (first | (go_at_call 132; refine HNAW.out.mono ?_; rintro e w4 ⟨rfl, hb4⟩; have H4 := Lib.hid (H3.out.go hb4); clear hb4; clear x0 x1 x2 x3 x4 x5 x6 hl1; obtain ⟨x0, x1, x2, x3, x4, x5, x6⟩ := zbZ H4.out.b1; have hl1 := zaZ H4.out.b1; obtain ⟨dgT, r0, r1, r2, r3, r4⟩ := HCT.out _ H4.out.b; rw [Nat.zero_mul, Nat.add_zero] at r0 r1 r2 r3 r4) | (go_at_call 58; refine (HTP.out _ H4.out.b).mono ?_; rintro e w5 ⟨rfl, hb5⟩; have H5 := Lib.hid (H4.out.go hb5); clear hb5 r0 r1 r2 r3 r4 dgT; clear x0 x1 x2 x3 x4 x5 x6 hl1; obtain ⟨x0, x1, x2, x3, x4, x5, x6⟩ := zbZ H5.out.b1; have hl1 := zaZ H5.out.b1) | (go_at_call 65; (with_reducible refine (HBW.out _ H5.out.b).mono ?_); rintro e w6 ⟨rfl, hb6⟩; have H6 := Lib.hid (H5.out.go hb6); clear hb6; clear x0 x1 x2 x3 x4 x5 x6 hl1; obtain ⟨x0, x1, x2, x3, x4, x5, x6⟩ := zbZ H6.out.b1; have hl1 := zaZ H6.out.b1))
           go_ret
           rw [HRX.out]
           try rw [HL.out]
           exact ⟨by simp [Sx.restS, hd0], H6.out.b⟩
         ·have hyel : (0 : Int) < (el : Int) := by omega
          have hwel : ¬ el = 0 := by omega
          go_wp2_with (first | (go_at_call 132; refine HNAW.out.mono ?_; rintro e w4 ⟨rfl, hb4⟩; have H4 := Lib.hid (H3.out.go hb4); clear hb4; clear x0 x1 x2 x3 x4 x5 x6 hl1; obtain ⟨x0, x1, x2, x3, x4, x5, x6⟩ := zbZ H4.out.b1; have hl1 := zaZ H4.out.b1; obtain ⟨dgT, r0, r1, r2, r3, r4⟩ := HCT.out _ H4.out.b; rw [Nat.zero_mul, Nat.add_zero] at r0 r1 r2 r3 r4) | (go_at_call 58; refine (HTP.out _ H4.out.b).mono ?_; rintro e w5 ⟨rfl, hb5⟩; have H5 := Lib.hid (H4.out.go hb5); clear hb5 r0 r1 r2 r3 r4 dgT; clear x0 x1 x2 x3 x4 x5 x6 hl1; obtain ⟨x0, x1, x2, x3, x4, x5, x6⟩ := zbZ H5.out.b1; have hl1 := zaZ H5.out.b1))
          go_ret
          rw [HRX.out]
          try rw [HL.out]
          exact ⟨by simp [Sx.restS, hd0, hwel], H5.out.b⟩
        ·have hybl : (0 : Int) < (bl : Int) := by omega
         have hwbl : ¬ bl = 0 := by omega
         go_wp2_with (first | (go_at_call 132; refine HNAW.out.mono ?_; rintro e w4 ⟨rfl, hb4⟩; have H4 := Lib.hid (H3.out.go hb4); clear hb4; clear x0 x1 x2 x3 x4 x5 x6 hl1; obtain ⟨x0, x1, x2, x3, x4, x5, x6⟩ := zbZ H4.out.b1; have hl1 := zaZ H4.out.b1; obtain ⟨dgT, r0, r1, r2, r3, r4⟩ := HCT.out _ H4.out.b; rw [Nat.zero_mul, Nat.add_zero] at r0 r1 r2 r3 r4) | (go_at_call 58; refine (HTP.out _ H4.out.b).mono ?_; rintro e w5 ⟨rfl, hb5⟩; have H5 := Lib.hid (H4.out.go hb5); clear hb5 r0 r1 r2 r3 r4 dgT; clear x0 x1 x2 x3 x4 x5 x6 hl1; obtain ⟨x0, x1, x2, x3, x4, x5, x6⟩ := zbZ H5.out.b1; have hl1 := zaZ H5.out.b1))
         go_ret
         rw [HRX.out]
         try rw [HL.out]
         exact ⟨by simp [Sx.restS, hd0, hwbl], H5.out.b⟩
       | false =>
        go_wp2_with (first | (go_at_call 132; refine HNAW.out.mono ?_; rintro e w4 ⟨rfl, hb4⟩; have H4 := Lib.hid (H3.out.go hb4); clear hb4; clear x0 x1 x2 x3 x4 x5 x6 hl1; obtain ⟨x0, x1, x2, x3, x4, x5, x6⟩ := zbZ H4.out.b1; have hl1 := zaZ H4.out.b1; obtain ⟨dgT, r0, r1, r2, r3, r4⟩ := HCT.out _ H4.out.b; rw [Nat.zero_mul, Nat.add_zero] at r0 r1 r2 r3 r4) | (go_at_call 58; refine (HTP.out _ H4.out.b).mono ?_; rintro e w5 ⟨rfl, hb5⟩; have H5 := Lib.hid (H4.out.go hb5); clear hb5 r0 r1 r2 r3 r4 dgT; clear x0 x1 x2 x3 x4 x5 x6 hl1; obtain ⟨x0, x1, x2, x3, x4, x5, x6⟩ := zbZ H5.out.b1; have hl1 := zaZ H5.out.b1))
        go_ret
        rw [HRX.out]
        try rw [HL.out]
        exact ⟨by simp [Sx.restS, hd0], H5.out.b⟩
      ·have hyt : (1 : Int) < (tl : Int) := by omega
       have hwt : ¬ tl = 0 := by omega
       go_wp2_with (first | (go_at_call 132; refine HNAW.out.mono ?_; rintro e w4 ⟨rfl, hb4⟩; have H4 := Lib.hid (H3.out.go hb4); clear hb4; clear x0 x1 x2 x3 x4 x5 x6 hl1; obtain ⟨x0, x1, x2, x3, x4, x5, x6⟩ := zbZ H4.out.b1; have hl1 := zaZ H4.out.b1))
       go_ret
       rw [HRX.out]
       try rw [HL.out]
       exact ⟨by simp [Sx.restS, hd0, hwt, ht1], H4.out.b⟩
    | false =>
     go_wp2_with (first | (go_at_call 132; refine HNAW.out.mono ?_; rintro e w4 ⟨rfl, hb4⟩; have H4 := Lib.hid (H3.out.go hb4); clear hb4; clear x0 x1 x2 x3 x4 x5 x6 hl1; obtain ⟨x0, x1, x2, x3, x4, x5, x6⟩ := zbZ H4.out.b1; have hl1 := zaZ H4.out.b1))
     go_ret
     rw [HRX.out]
     try rw [HL.out]
     exact ⟨by simp [Sx.restS, hd0], H4.out.b⟩
  by_cases hk2 : kd = 2
  ·subst hk2
   cases nE with
   | true =>
    have hne := HNE.out
    have hsmF : sm = false := by
     cases sm with
     | false => rfl
     | true => exact absurd (List.isEmpty_iff.1 hne) (NM.ok.small _ HSM.out)
    subst hsmF
    go_wp2_with fail
    go_ret
    rw [HRX.out]
    try rw [HL.out]
    exact ⟨by simp [Sx.restS, hd0], H3.out.b⟩
   | false =>
    have hne := HNE.out
    cases sm with
    | true =>
     rcases Nat.eq_zero_or_pos tl with hztl | hztl
     ·subst hztl
      rcases Nat.eq_zero_or_pos bl with hzbl | hzbl
      ·subst hzbl
       rcases Nat.eq_zero_or_pos el with hzel | hzel
       ·subst hzel
        cases rb with
        | true =>
         cases re with
         | true =>
          go_wp2_with (first | (go_at_call 132; refine HNAW.out.mono ?_; rintro e w4 ⟨rfl, hb4⟩; have H4 := Lib.hid (H3.out.go hb4); clear hb4; clear x0 x1 x2 x3 x4 x5 x6 hl1; obtain ⟨x0, x1, x2, x3, x4, x5, x6⟩ := zbZ H4.out.b1; have hl1 := zaZ H4.out.b1) | (go_at_call 65; (with_reducible refine (HBW.out _ H4.out.b).mono ?_); rintro e w5 ⟨rfl, hb5⟩; have H5 := Lib.hid (H4.out.go hb5); clear hb5; clear x0 x1 x2 x3 x4 x5 x6 hl1; obtain ⟨x0, x1, x2, x3, x4, x5, x6⟩ := zbZ H5.out.b1; have hl1 := zaZ H5.out.b1) | (go_at_call 65; (with_reducible refine (HEW.out _ H5.out.b).mono ?_); rintro e w6 ⟨rfl, hb6⟩; have H6 := Lib.hid (H5.out.go hb6); clear hb6))
          go_ret
          rw [HRX.out]
          try rw [HL.out]
          exact ⟨by simp [Sx.restS, hd0], H6.out.b⟩
         | false =>
          go_wp2_with (first | (go_at_call 132; refine HNAW.out.mono ?_; rintro e w4 ⟨rfl, hb4⟩; have H4 := Lib.hid (H3.out.go hb4); clear hb4; clear x0 x1 x2 x3 x4 x5 x6 hl1; obtain ⟨x0, x1, x2, x3, x4, x5, x6⟩ := zbZ H4.out.b1; have hl1 := zaZ H4.out.b1) | (go_at_call 65; (with_reducible refine (HBW.out _ H4.out.b).mono ?_); rintro e w5 ⟨rfl, hb5⟩; have H5 := Lib.hid (H4.out.go hb5); clear hb5; clear x0 x1 x2 x3 x4 x5 x6 hl1; obtain ⟨x0, x1, x2, x3, x4, x5, x6⟩ := zbZ H5.out.b1; have hl1 := zaZ H5.out.b1) | (go_at_call 65; (with_reducible refine (HEW.out _ H5.out.b).mono ?_); rintro e w6 ⟨rfl, hb6⟩; have H6 := Lib.hid (H5.out.go hb6); clear hb6))
          go_ret
          rw [HRX.out]
          try rw [HL.out]
          exact ⟨by simp [Sx.restS, hd0], H6.out.b⟩
        | false =>
         go_wp2_with (first | (go_at_call 132; refine HNAW.out.mono ?_; rintro e w4 ⟨rfl, hb4⟩; have H4 := Lib.hid (H3.out.go hb4); clear hb4; clear x0 x1 x2 x3 x4 x5 x6 hl1; obtain ⟨x0, x1, x2, x3, x4, x5, x6⟩ := zbZ H4.out.b1; have hl1 := zaZ H4.out.b1) | (go_at_call 65; (with_reducible refine (HBW.out _ H4.out.b).mono ?_); rintro e w5 ⟨rfl, hb5⟩; have H5 := Lib.hid (H4.out.go hb5); clear hb5; clear x0 x1 x2 x3 x4 x5 x6 hl1; obtain ⟨x0, x1, x2, x3, x4, x5, x6⟩ := zbZ H5.out.b1; have hl1 := zaZ H5.out.b1))
         go_ret
         rw [HRX.out]
         try rw [HL.out]
         exact ⟨by simp [Sx.restS, hd0], H5.out.b⟩
       ·have hyel : (0 : Int) < (el : Int) := by omega
        have hwel : ¬ el = 0 := by omega
        go_wp2_with (first | (go_at_call 132; refine HNAW.out.mono ?_; rintro e w4 ⟨rfl, hb4⟩; have H4 := Lib.hid (H3.out.go hb4); clear hb4; clear x0 x1 x2 x3 x4 x5 x6 hl1; obtain ⟨x0, x1, x2, x3, x4, x5, x6⟩ := zbZ H4.out.b1; have hl1 := zaZ H4.out.b1))
        go_ret
        rw [HRX.out]
        try rw [HL.out]
        exact ⟨by simp [Sx.restS, hd0, hwel], H4.out.b⟩
      ·have hybl : (0 : Int) < (bl : Int) := by omega
       have hwbl : ¬ bl = 0 := by omega
       go_wp2_with (first | (go_at_call 132; refine HNAW.out.mono ?_; rintro e w4 ⟨rfl, hb4⟩; have H4 := Lib.hid (H3.out.go hb4); clear hb4; clear x0 x1 x2 x3 x4 x5 x6 hl1; obtain ⟨x0, x1, x2, x3, x4, x5, x6⟩ := zbZ H4.out.b1; have hl1 := zaZ H4.out.b1))
       go_ret
       rw [HRX.out]
       try rw [HL.out]
       exact ⟨by simp [Sx.restS, hd0, hwbl], H4.out.b⟩
     ·by_cases ht1 : tl = 1
      ·subst ht1
       go_wp2_with (first | (go_at_call 132; refine HNAW.out.mono ?_; rintro e w4 ⟨rfl, hb4⟩; have H4 := Lib.hid (H3.out.go hb4); clear hb4; clear x0 x1 x2 x3 x4 x5 x6 hl1; obtain ⟨x0, x1, x2, x3, x4, x5, x6⟩ := zbZ H4.out.b1; have hl1 := zaZ H4.out.b1))
       go_ret
       rw [HRX.out]
       try rw [HL.out]
       exact ⟨by simp [Sx.restS, hd0], H4.out.b⟩
      ·have hyt : (1 : Int) < (tl : Int) := by omega
       have hwt : ¬ tl = 0 := by omega
       go_wp2_with (first | (go_at_call 132; refine HNAW.out.mono ?_; rintro e w4 ⟨rfl, hb4⟩; have H4 := Lib.hid (H3.out.go hb4); clear hb4; clear x0 x1 x2 x3 x4 x5 x6 hl1; obtain ⟨x0, x1, x2, x3, x4, x5, x6⟩ := zbZ H4.out.b1; have hl1 := zaZ H4.out.b1))
       go_ret
       rw [HRX.out]
       try rw [HL.out]
       exact ⟨by simp [Sx.restS, hd0, hwt, ht1], H4.out.b⟩
    | false =>
     go_wp2_with (first | (go_at_call 132; refine HNAW.out.mono ?_; rintro e w4 ⟨rfl, hb4⟩; have H4 := Lib.hid (H3.out.go hb4); clear hb4; clear x0 x1 x2 x3 x4 x5 x6 hl1; obtain ⟨x0, x1, x2, x3, x4, x5, x6⟩ := zbZ H4.out.b1; have hl1 := zaZ H4.out.b1))
     go_ret
     rw [HRX.out]
     try rw [HL.out]
     exact ⟨by simp [Sx.restS, hd0], H4.out.b⟩
  by_cases hk3 : kd = 3
  ·subst hk3
   cases nE with
   | true =>
    have hne := HNE.out
    rcases Nat.eq_zero_or_pos tl with hztl | hztl
    ·subst hztl
     rcases Nat.eq_zero_or_pos bl with hzbl | hzbl
     ·subst hzbl
      rcases Nat.eq_zero_or_pos el with hzel | hzel
      ·subst hzel
       cases rb with
       | true =>
        cases re with
        | true =>
         go_wp2_with (first | (go_at_call 65; (with_reducible refine (HBW.out _ H3.out.b).mono ?_); rintro e w4 ⟨rfl, hb4⟩; have H4 := Lib.hid (H3.out.go hb4); clear hb4; clear x0 x1 x2 x3 x4 x5 x6 hl1; obtain ⟨x0, x1, x2, x3, x4, x5, x6⟩ := zbZ H4.out.b1; have hl1 := zaZ H4.out.b1) | (go_at_call 65; (with_reducible refine (HEW.out _ H4.out.b).mono ?_); rintro e w5 ⟨rfl, hb5⟩; have H5 := Lib.hid (H4.out.go hb5); clear hb5))
         go_ret
         rw [HRX.out]
         try rw [HL.out]
         exact ⟨by simp [Sx.restS, hd0], H5.out.b⟩
        | false =>
         go_wp2_with (first | (go_at_call 65; (with_reducible refine (HBW.out _ H3.out.b).mono ?_); rintro e w4 ⟨rfl, hb4⟩; have H4 := Lib.hid (H3.out.go hb4); clear hb4; clear x0 x1 x2 x3 x4 x5 x6 hl1; obtain ⟨x0, x1, x2, x3, x4, x5, x6⟩ := zbZ H4.out.b1; have hl1 := zaZ H4.out.b1) | (go_at_call 65; (with_reducible refine (HEW.out _ H4.out.b).mono ?_); rintro e w5 ⟨rfl, hb5⟩; have H5 := Lib.hid (H4.out.go hb5); clear hb5))
         go_ret
         rw [HRX.out]
         try rw [HL.out]
         exact ⟨by simp [Sx.restS, hd0], H5.out.b⟩
       | false =>
        go_wp2_with (go_at_call 65; (with_reducible refine (HBW.out _ H3.out.b).mono ?_); rintro e w4 ⟨rfl, hb4⟩; have H4 := Lib.hid (H3.out.go hb4); clear hb4; clear x0 x1 x2 x3 x4 x5 x6 hl1; obtain ⟨x0, x1, x2, x3, x4, x5, x6⟩ := zbZ H4.out.b1; have hl1 := zaZ H4.out.b1)
        go_ret
        rw [HRX.out]
        try rw [HL.out]
        exact ⟨by simp [Sx.restS, hd0], H4.out.b⟩
      ·have hyel : (0 : Int) < (el : Int) := by omega
       have hwel : ¬ el = 0 := by omega
       go_wp2_with fail
       go_ret
       rw [HRX.out]
       try rw [HL.out]
       exact ⟨by simp [Sx.restS, hd0, hwel], H3.out.b⟩
     ·have hybl : (0 : Int) < (bl : Int) := by omega
      have hwbl : ¬ bl = 0 := by omega
      go_wp2_with fail
      go_ret
      rw [HRX.out]
      try rw [HL.out]
      exact ⟨by simp [Sx.restS, hd0, hwbl], H3.out.b⟩
    ·by_cases ht1 : tl = 1
     ·subst ht1
      go_wp2_with fail
      go_ret
      rw [HRX.out]
      try rw [HL.out]
      exact ⟨by simp [Sx.restS, hd0], H3.out.b⟩
     ·have hyt : (1 : Int) < (tl : Int) := by omega
      have hwt : ¬ tl = 0 := by omega
      go_wp2_with fail
      go_ret
      rw [HRX.out]
      try rw [HL.out]
      exact ⟨by simp [Sx.restS, hd0, hwt, ht1], H3.out.b⟩
   | false =>
    have hne := HNE.out
    go_wp2_with fail
    go_ret
    rw [HRX.out]
    try rw [HL.out]
    exact ⟨by simp [Sx.restS, hd0], H3.out.b⟩
  by_cases hk4 : kd = 4
  ·subst hk4
   cases nE with
   | true =>
    have hne := HNE.out
    rcases Nat.eq_zero_or_pos tl with hztl | hztl
    ·subst hztl
     cases rb with
     | true =>
      cases re with
      | true =>
       go_wp2_with (first | (go_at_call 65; (with_reducible refine (HBW.out _ H3.out.b).mono ?_); rintro e w4 ⟨rfl, hb4⟩; have H4 := Lib.hid (H3.out.go hb4); clear hb4; clear x0 x1 x2 x3 x4 x5 x6 hl1; obtain ⟨x0, x1, x2, x3, x4, x5, x6⟩ := zbZ H4.out.b1; have hl1 := zaZ H4.out.b1) | (go_at_call 65; (with_reducible refine (HEW.out _ H4.out.b).mono ?_); rintro e w5 ⟨rfl, hb5⟩; have H5 := Lib.hid (H4.out.go hb5); clear hb5))
       go_ret
       rw [HRX.out]
       try rw [HL.out]
       exact ⟨by simp [Sx.restS, hd0], H5.out.b⟩
      | false =>
       go_wp2_with (first | (go_at_call 65; (with_reducible refine (HBW.out _ H3.out.b).mono ?_); rintro e w4 ⟨rfl, hb4⟩; have H4 := Lib.hid (H3.out.go hb4); clear hb4; clear x0 x1 x2 x3 x4 x5 x6 hl1; obtain ⟨x0, x1, x2, x3, x4, x5, x6⟩ := zbZ H4.out.b1; have hl1 := zaZ H4.out.b1) | (go_at_call 65; (with_reducible refine (HEW.out _ H4.out.b).mono ?_); rintro e w5 ⟨rfl, hb5⟩; have H5 := Lib.hid (H4.out.go hb5); clear hb5))
       go_ret
       rw [HRX.out]
       try rw [HL.out]
       exact ⟨by simp [Sx.restS, hd0], H5.out.b⟩
     | false =>
      go_wp2_with (go_at_call 65; (with_reducible refine (HBW.out _ H3.out.b).mono ?_); rintro e w4 ⟨rfl, hb4⟩; have H4 := Lib.hid (H3.out.go hb4); clear hb4; clear x0 x1 x2 x3 x4 x5 x6 hl1; obtain ⟨x0, x1, x2, x3, x4, x5, x6⟩ := zbZ H4.out.b1; have hl1 := zaZ H4.out.b1)
      go_ret
      rw [HRX.out]
      try rw [HL.out]
      exact ⟨by simp [Sx.restS, hd0], H4.out.b⟩
    ·by_cases ht1 : tl = 1
     ·subst ht1
      go_wp2_with fail
      go_ret
      rw [HRX.out]
      try rw [HL.out]
      exact ⟨by simp [Sx.restS, hd0], H3.out.b⟩
     ·have hyt : (1 : Int) < (tl : Int) := by omega
      have hwt : ¬ tl = 0 := by omega
      go_wp2_with fail
      go_ret
      rw [HRX.out]
      try rw [HL.out]
      exact ⟨by simp [Sx.restS, hd0, hwt, ht1], H3.out.b⟩
   | false =>
    have hne := HNE.out
    go_wp2_with fail
    go_ret
    rw [HRX.out]
    try rw [HL.out]
    exact ⟨by simp [Sx.restS, hd0], H3.out.b⟩
  by_cases hk5 : kd = 5
  ·subst hk5
   cases nE with
   | true =>
    have hne := HNE.out
    rcases Nat.eq_zero_or_pos tl with hztl | hztl
    ·subst hztl
     rcases Nat.eq_zero_or_pos el with hzel | hzel
     ·subst hzel
      cases rb with
      | true =>
       cases re with
       | true =>
        go_wp2_with (first | (go_at_call 65; (with_reducible refine (HBW.out _ H3.out.b).mono ?_); rintro e w4 ⟨rfl, hb4⟩; have H4 := Lib.hid (H3.out.go hb4); clear hb4; clear x0 x1 x2 x3 x4 x5 x6 hl1; obtain ⟨x0, x1, x2, x3, x4, x5, x6⟩ := zbZ H4.out.b1; have hl1 := zaZ H4.out.b1) | (go_at_call 65; (with_reducible refine (HEW.out _ H4.out.b).mono ?_); rintro e w5 ⟨rfl, hb5⟩; have H5 := Lib.hid (H4.out.go hb5); clear hb5))
        go_ret
        rw [HRX.out]
        try rw [HL.out]
        exact ⟨by simp [Sx.restS, hd0], H5.out.b⟩
       | false =>
        go_wp2_with (first | (go_at_call 65; (with_reducible refine (HBW.out _ H3.out.b).mono ?_); rintro e w4 ⟨rfl, hb4⟩; have H4 := Lib.hid (H3.out.go hb4); clear hb4; clear x0 x1 x2 x3 x4 x5 x6 hl1; obtain ⟨x0, x1, x2, x3, x4, x5, x6⟩ := zbZ H4.out.b1; have hl1 := zaZ H4.out.b1) | (go_at_call 65; (with_reducible refine (HEW.out _ H4.out.b).mono ?_); rintro e w5 ⟨rfl, hb5⟩; have H5 := Lib.hid (H4.out.go hb5); clear hb5))
        go_ret
        rw [HRX.out]
        try rw [HL.out]
        exact ⟨by simp [Sx.restS, hd0], H5.out.b⟩
      | false =>
       go_wp2_with (go_at_call 65; (with_reducible refine (HBW.out _ H3.out.b).mono ?_); rintro e w4 ⟨rfl, hb4⟩; have H4 := Lib.hid (H3.out.go hb4); clear hb4; clear x0 x1 x2 x3 x4 x5 x6 hl1; obtain ⟨x0, x1, x2, x3, x4, x5, x6⟩ := zbZ H4.out.b1; have hl1 := zaZ H4.out.b1)
       go_ret
       rw [HRX.out]
       try rw [HL.out]
       exact ⟨by simp [Sx.restS, hd0], H4.out.b⟩
     ·have hyel : (0 : Int) < (el : Int) := by omega
      have hwel : ¬ el = 0 := by omega
      go_wp2_with fail
      go_ret
      rw [HRX.out]
      try rw [HL.out]
      exact ⟨by simp [Sx.restS, hd0, hwel], H3.out.b⟩
    ·by_cases ht1 : tl = 1
     ·subst ht1
      go_wp2_with fail
      go_ret
      rw [HRX.out]
      try rw [HL.out]
      exact ⟨by simp [Sx.restS, hd0], H3.out.b⟩
     ·have hyt : (1 : Int) < (tl : Int) := by omega
      have hwt : ¬ tl = 0 := by omega
      go_wp2_with fail
      go_ret
      rw [HRX.out]
      try rw [HL.out]
      exact ⟨by simp [Sx.restS, hd0, hwt, ht1], H3.out.b⟩
   | false =>
    have hne := HNE.out
    go_wp2_with fail
    go_ret
    rw [HRX.out]
    try rw [HL.out]
    exact ⟨by simp [Sx.restS, hd0], H3.out.b⟩
  by_cases hk6 : kd = 6
  ·subst hk6
   cases nE with
   | true =>
    have hne := HNE.out
    rcases Nat.eq_zero_or_pos tl with hztl | hztl
    ·subst hztl
     rcases Nat.eq_zero_or_pos bl with hzbl | hzbl
     ·subst hzbl
      rcases Nat.eq_zero_or_pos el with hzel | hzel
      ·subst hzel
       cases rb with
       | true =>
        cases re with
        | true =>
         go_wp2_with (first | (go_at_call 65; (with_reducible refine (HBW.out _ H3.out.b).mono ?_); rintro e w4 ⟨rfl, hb4⟩; have H4 := Lib.hid (H3.out.go hb4); clear hb4; clear x0 x1 x2 x3 x4 x5 x6 hl1; obtain ⟨x0, x1, x2, x3, x4, x5, x6⟩ := zbZ H4.out.b1; have hl1 := zaZ H4.out.b1) | (go_at_call 65; (with_reducible refine (HEW.out _ H4.out.b).mono ?_); rintro e w5 ⟨rfl, hb5⟩; have H5 := Lib.hid (H4.out.go hb5); clear hb5))
         go_ret
         rw [HRX.out]
         try rw [HL.out]
         exact ⟨by simp [Sx.restS, hd0], H5.out.b⟩
        | false =>
         go_wp2_with (first | (go_at_call 65; (with_reducible refine (HBW.out _ H3.out.b).mono ?_); rintro e w4 ⟨rfl, hb4⟩; have H4 := Lib.hid (H3.out.go hb4); clear hb4; clear x0 x1 x2 x3 x4 x5 x6 hl1; obtain ⟨x0, x1, x2, x3, x4, x5, x6⟩ := zbZ H4.out.b1; have hl1 := zaZ H4.out.b1) | (go_at_call 65; (with_reducible refine (HEW.out _ H4.out.b).mono ?_); rintro e w5 ⟨rfl, hb5⟩; have H5 := Lib.hid (H4.out.go hb5); clear hb5))
         go_ret
         rw [HRX.out]
         try rw [HL.out]
         exact ⟨by simp [Sx.restS, hd0], H5.out.b⟩
       | false =>
        go_wp2_with (go_at_call 65; (with_reducible refine (HBW.out _ H3.out.b).mono ?_); rintro e w4 ⟨rfl, hb4⟩; have H4 := Lib.hid (H3.out.go hb4); clear hb4; clear x0 x1 x2 x3 x4 x5 x6 hl1; obtain ⟨x0, x1, x2, x3, x4, x5, x6⟩ := zbZ H4.out.b1; have hl1 := zaZ H4.out.b1)
        go_ret
        rw [HRX.out]
        try rw [HL.out]
        exact ⟨by simp [Sx.restS, hd0], H4.out.b⟩
      ·have hyel : (0 : Int) < (el : Int) := by omega
       have hwel : ¬ el = 0 := by omega
       go_wp2_with fail
       go_ret
       rw [HRX.out]
       try rw [HL.out]
       exact ⟨by simp [Sx.restS, hd0, hwel], H3.out.b⟩
     ·have hybl : (0 : Int) < (bl : Int) := by omega
      have hwbl : ¬ bl = 0 := by omega
      go_wp2_with fail
      go_ret
      rw [HRX.out]
      try rw [HL.out]
      exact ⟨by simp [Sx.restS, hd0, hwbl], H3.out.b⟩
    ·by_cases ht1 : tl = 1
     ·subst ht1
      go_wp2_with fail
      go_ret
      rw [HRX.out]
      try rw [HL.out]
      exact ⟨by simp [Sx.restS, hd0], H3.out.b⟩
     ·have hyt : (1 : Int) < (tl : Int) := by omega
      have hwt : ¬ tl = 0 := by omega
      go_wp2_with fail
      go_ret
      rw [HRX.out]
      try rw [HL.out]
      exact ⟨by simp [Sx.restS, hd0, hwt, ht1], H3.out.b⟩
   | false =>
    have hne := HNE.out
    go_wp2_with fail
    go_ret
    rw [HRX.out]
    try rw [HL.out]
    exact ⟨by simp [Sx.restS, hd0], H3.out.b⟩
  by_cases hk7 : kd = 7
  ·subst hk7
   cases nE with
   | true =>
    have hne := HNE.out
    rcases Nat.eq_zero_or_pos tl with hztl | hztl
    ·subst hztl
     rcases Nat.eq_zero_or_pos bl with hzbl | hzbl
     ·subst hzbl
      rcases Nat.eq_zero_or_pos el with hzel | hzel
      ·subst hzel
       cases rb with
       | true =>
        cases re with
        | true =>
         go_wp2_with (first | (go_at_call 65; (with_reducible refine (HBW.out _ H3.out.b).mono ?_); rintro e w4 ⟨rfl, hb4⟩; have H4 := Lib.hid (H3.out.go hb4); clear hb4; clear x0 x1 x2 x3 x4 x5 x6 hl1; obtain ⟨x0, x1, x2, x3, x4, x5, x6⟩ := zbZ H4.out.b1; have hl1 := zaZ H4.out.b1) | (go_at_call 65; (with_reducible refine (HEW.out _ H4.out.b).mono ?_); rintro e w5 ⟨rfl, hb5⟩; have H5 := Lib.hid (H4.out.go hb5); clear hb5))
         go_ret
         rw [HRX.out]
         try rw [HL.out]
         exact ⟨by simp [Sx.restS, hd0], H5.out.b⟩
        | false =>
         go_wp2_with (first | (go_at_call 65; (with_reducible refine (HBW.out _ H3.out.b).mono ?_); rintro e w4 ⟨rfl, hb4⟩; have H4 := Lib.hid (H3.out.go hb4); clear hb4; clear x0 x1 x2 x3 x4 x5 x6 hl1; obtain ⟨x0, x1, x2, x3, x4, x5, x6⟩ := zbZ H4.out.b1; have hl1 := zaZ H4.out.b1) | (go_at_call 65; (with_reducible refine (HEW.out _ H4.out.b).mono ?_); rintro e w5 ⟨rfl, hb5⟩; have H5 := Lib.hid (H4.out.go hb5); clear hb5))
         go_ret
         rw [HRX.out]
         try rw [HL.out]
         exact ⟨by simp [Sx.restS, hd0], H5.out.b⟩
       | false =>
        go_wp2_with (go_at_call 65; (with_reducible refine (HBW.out _ H3.out.b).mono ?_); rintro e w4 ⟨rfl, hb4⟩; have H4 := Lib.hid (H3.out.go hb4); clear hb4; clear x0 x1 x2 x3 x4 x5 x6 hl1; obtain ⟨x0, x1, x2, x3, x4, x5, x6⟩ := zbZ H4.out.b1; have hl1 := zaZ H4.out.b1)
        go_ret
        rw [HRX.out]
        try rw [HL.out]
        exact ⟨by simp [Sx.restS, hd0], H4.out.b⟩
      ·have hyel : (0 : Int) < (el : Int) := by omega
       have hwel : ¬ el = 0 := by omega
       go_wp2_with fail
       go_ret
       rw [HRX.out]
       try rw [HL.out]
       exact ⟨by simp [Sx.restS, hd0, hwel], H3.out.b⟩
     ·have hybl : (0 : Int) < (bl : Int) := by omega
      have hwbl : ¬ bl = 0 := by omega
      go_wp2_with fail
      go_ret
      rw [HRX.out]
      try rw [HL.out]
      exact ⟨by simp [Sx.restS, hd0, hwbl], H3.out.b⟩
    ·by_cases ht1 : tl = 1
     ·subst ht1
      go_wp2_with fail
      go_ret
      rw [HRX.out]
      try rw [HL.out]
      exact ⟨by simp [Sx.restS, hd0], H3.out.b⟩
     ·have hyt : (1 : Int) < (tl : Int) := by omega
      have hwt : ¬ tl = 0 := by omega
      go_wp2_with fail
      go_ret
      rw [HRX.out]
      try rw [HL.out]
      exact ⟨by simp [Sx.restS, hd0, hwt, ht1], H3.out.b⟩
   | false =>
    have hne := HNE.out
    go_wp2_with fail
    go_ret
    rw [HRX.out]
    try rw [HL.out]
    exact ⟨by simp [Sx.restS, hd0], H3.out.b⟩
  by_cases hlo : kd < 1
  ·have hlo9 : ¬ (1 : Int) ≤ kd := by omega
   have g1 : (kd == 1) = false := by rw [beq_eq_false_iff_ne]; omega
   have g2 : (kd == 2) = false := by rw [beq_eq_false_iff_ne]; omega
   have g3 : (kd == 3) = false := by rw [beq_eq_false_iff_ne]; omega
   have g4 : (kd == 4) = false := by rw [beq_eq_false_iff_ne]; omega
   have g5 : (kd == 5) = false := by rw [beq_eq_false_iff_ne]; omega
   have g6 : (kd == 6) = false := by rw [beq_eq_false_iff_ne]; omega
   have g7 : (kd == 7) = false := by rw [beq_eq_false_iff_ne]; omega
   have HRS := Lib.hid (show ∀ a b c d e f g h, Sx.restS kd a b c d e f g h = false from fun a b c d e f g h => by unfold Sx.restS; rw [decide_eq_false (by omega)]; rfl)
   clear hk1 hk2 hk3 hk4 hk5 hk6 hk7 hlo9
   go_wp2_with fail
   go_ret
   rw [HRX.out]
   try rw [HL.out]
   exact ⟨by simp [hd0, HRS.out], H3.out.b⟩
  ·have hhi : (7 : Int) < kd := by omega
   have hhi9 : ¬ kd ≤ 7 := by omega
   have hlo8 : (1 : Int) ≤ kd := by omega
   have g1 : (kd == 1) = false := by rw [beq_eq_false_iff_ne]; omega
   have g2 : (kd == 2) = false := by rw [beq_eq_false_iff_ne]; omega
   have g3 : (kd == 3) = false := by rw [beq_eq_false_iff_ne]; omega
   have g4 : (kd == 4) = false := by rw [beq_eq_false_iff_ne]; omega
   have g5 : (kd == 5) = false := by rw [beq_eq_false_iff_ne]; omega
   have g6 : (kd == 6) = false := by rw [beq_eq_false_iff_ne]; omega
   have g7 : (kd == 7) = false := by rw [beq_eq_false_iff_ne]; omega
   have HRS := Lib.hid (show ∀ a b c d e f g h, Sx.restS kd a b c d e f g h = false from fun a b c d e f g h => by unfold Sx.restS; rw [decide_eq_false (by omega)]; rfl)
   clear hk1 hk2 hk3 hk4 hk5 hk6 hk7 hlo hhi9
   go_wp2_with fail
   go_ret
   rw [HRX.out]
   try rw [HL.out]
   exact ⟨by simp [hd0, HRS.out], H3.out.b⟩
theorem zcgZ : ∀ (n : Nat) (s : Sx.St), Sx.sizeS s ≤ n → ∀ d, d ≤ 64 → RightSOk d s
 | 0, s, h => by have := Sx.sizeS_pos s; omega
 | n + 1, s, h => fun d hd => zjcZ d hd s
   (fun d hd => zdaZ d hd _ fun p hp => zcgZ n p (by
    have := Sx.sizeS_mem hp
    have := Sx.sizeS_parts s
    omega) d hd)
   (fun d hd => zdaZ d hd _ fun p hp => zcgZ n p (by
    have := Sx.sizeS_mem hp
    have := Sx.sizeS_parts s
    omega) d hd)
theorem zgiZ (d : Nat) (hd : d ≤ 64) (l : List Sx.St) : RightSsOk d l := zdaZ d hd l fun s _ => zcgZ _ s (Nat.le_refl _) d hd
end Go.Proofs.YtdncljdfmdgdaaaGreatDoor
