/-
  The walk of 'cut' with the callee that goes on (Tokens' own).
-/
import Derived.Test.YtbhdkkkaeabkhaaGreatDoorLxToken
import Derived.Test.YtbhdkkkaeabkhaaGreatDoorLxGo
namespace Go.Proofs.YtbhdkkkaeabkhaaGreatDoor
open Go.RowKit
set_option linter.unusedSimpArgs false
set_option linter.unusedVariables false

theorem lexTell (i p a n : Int) (st : ByteArray) (w : World) : Calls Tryz.prog 39 #[.int .i64 i, .agg #[.int .i64 p, .int .i64 a, .string st, .int .i64 n]] w fun e w' => e = .returned (.bool true) ∧ w.grownBy w' none := by
  go_enter Tryz.func39, Tryz.ntmps39
  go_wp2
  go_ret
  exact ⟨rfl, World.grownBy_alloc _ _ _⟩

/-- How a cut ends. -/
def EndIs (w : World) (r : Option (Nat × Nat)) (e : Ending) (w' : World) : Prop :=
  match r with
  | none => e = .returned (.pointer none)
  | some (y, x) => ∃ g, e = .returned (.pointer (some ⟨g, 0, none⟩)) ∧ IsRef w' g x y ∧ w.heap.size ≤ g

theorem grown_in {w w1 w2 : World} {b : Nat} (h : w.grownBy w1 none) (h' : w1.grownBy w2 (some b)) (hb : w.heap.size ≤ b) : w.grownBy w2 none :=
  ⟨h'.os.trans h.os, h'.tape.trans h.tape, h'.output.trans h.output, Nat.le_trans h.size h'.size, fun j hj _ => (h'.block j (by have := h.size; omega) (fun e => by injection e with e; omega)).trans (h.block j hj (fun e => nomatch e))⟩
theorem IsRef.alloc {w : World} {g : Nat} {x y : Int} (h : IsRef w g x y) (o : Obj) : IsRef (w.alloc o) g x y := heap_alloc h o

set_option maxRecDepth 100000 in
set_option maxHeartbeats 8000000 in
theorem lexCutAll (s : ByteArray) (w : World) (hG : GS w) (hN : NG ≤ w.heap.size) (hs : s.size ≤ 140737488351232) :
    Calls Tryz.prog 38 #[.string s, .func (.func 39) #[] #[]] w fun e w' => w.grownBy w' none ∧ EndIs w (Lx.toks s.data.toList).2 e w' := by
  go_enter Tryz.func38, Tryz.ntmps38
  by_cases hl : 65536 < s.size
  · have hl' : (65536 : Int) < (s.size : Int) := by omega
    have ht : (Lx.toks s.data.toList).2 = some (2, 0) := by unfold Lx.toks; rw [if_pos (by rw [len_size]; exact hl)]
    have HT := Lib.hid ht
    clear ht
    go_wp2_with (go_at_call 56; refine (lexWrong _ _ _).mono ?_; rintro e w' ⟨rfl, rfl⟩)
    go_ret
    refine ⟨World.grownBy_alloc _ _ _, ?_⟩
    rw [HT.out]
    exact ⟨_, rfl, heap_alloc_new _ _, Nat.le_refl _⟩
  · have hl' : ¬ (65536 : Int) < (s.size : Int) := by omega
    have ht : Lx.toks s.data.toList = Lx.go (s.size + 1) 0 0 (s.data.toList.drop 0) := by unfold Lx.toks; rw [if_neg (by rw [len_size]; exact hl), len_size]; rfl
    have HT := Lib.hid ht
    clear ht
    go_wp2
    have hC1 : Cu (w.alloc (.cells #[.string s, .int .i64 0] 102)) w.heap.size s 0 := heap_alloc_new w _
    have hg1 : w.grownBy (w.alloc (.cells #[.string s, .int .i64 0] 102)) none := World.grownBy_alloc _ _ _
    obtain ⟨w1, hw1⟩ : ∃ w1, w.alloc (.cells #[.string s, .int .i64 0] 102) = w1 := ⟨_, rfl⟩
    rw [hw1] at hC1 hg1 ⊢
    have hz1 : w.heap.size < w1.heap.size := hC1.lt
    clear hw1
    have HC1 := Lib.hid hC1
    have HG1 := Lib.hid hg1
    clear hC1 hg1
    go_loopg [6] (s.size) (fun n v wr => ∃ (m i f : Nat), n = s.size - m ∧ v = .int .i64 (i : Int) ∧ i ≤ 4096 ∧ m ≤ s.size ∧ Cu wr w.heap.size s m ∧ w.grownBy wr none ∧ s.size - m < f ∧
      (Lx.go f m i (s.data.toList.drop m)).2 = (Lx.toks s.data.toList).2)
    case atStart => exact ⟨0, 0, s.size + 1, by simp, rfl, by omega, by omega, HC1.out, HG1.out, by omega, by rw [HT.out]⟩
    case round =>
      obtain ⟨m, i, f, hn, rfl, hi, hm, hC, hg, hf, he⟩ := hrel
      have hbl : w.heap.size < wr.heap.size := hC.lt
      have hGr : GS wr := hG.of_heap fun k hk _ => hg.block k (by omega) (fun e => nomatch e)
      obtain ⟨f, rfl⟩ : ∃ f', f = f' + 1 := ⟨f - 1, by omega⟩
      obtain ⟨hq1, hq2, hq3⟩ := skip_at s m hm
      have HN := Lib.hid hn
      have HE := Lib.hid he
      have HG := Lib.hid hg
      have hsk := lexSkip s w.heap.size m wr hC hm hs
      clear hn he hg hC HC1 HG1
      have i1 : (i : Int) ≤ 4096 := by omega
      have q1 : ((skipAt s m : Nat) : Int) ≤ (s.size : Int) := by omega
      have qk : ∀ w', wr.grownBy w' (some w.heap.size) → w.grownBy w' none := fun w' h => ⟨h.os.trans HG.out.os, h.tape.trans HG.out.tape, h.output.trans HG.out.output, Nat.le_trans HG.out.size h.size, fun j hj _ => (h.block j (by have := HG.out.size; omega) (fun e => by injection e with e; omega)).trans (HG.out.block j hj (fun e => nomatch e))⟩
      have hsk' : Calls Tryz.prog 57 #[.pointer (some ⟨w.heap.size, 0, none⟩)] wr fun e w' => e = .returned (.tuple #[]) ∧ Cu w' w.heap.size s (skipAt s m) ∧ w.grownBy w' none ∧ GS w' :=
        hsk.mono fun e w' h => ⟨h.1, h.2.1, qk _ h.2.2, hGr.of_heap fun k hk hk2 => h.2.2.block k hk2 (fun e => by injection e with e; omega)⟩
      clear hsk
      by_cases hq : skipAt s m = s.size
      · have hR : (Lx.toks s.data.toList).2 = none := HE.out.symm.trans (by rw [go_end hm hq])
        have HR := Lib.hid hR
        clear hR
        have HQ := Lib.hid hq
        have hqi : ((skipAt s m : Nat) : Int) = (s.size : Int) := by omega
        clear hq
        go_wp2_with (go_at_call 57; refine hsk'.mono ?_; clear hsk'; rintro e w5 ⟨rfl, hC5, hg5, hG5⟩; have c0 := hC5.c0; have c1 := hC5.c1; have cf1 := hC5.f1)
        go_ret
        refine ⟨hg5, ?_⟩
        rw [HR.out]
        rfl
      · have hq' : skipAt s m < s.size := by omega
        have hqne : ¬ ((skipAt s m : Nat) : Int) = (s.size : Int) := by omega
        have hqlt : ((skipAt s m : Nat) : Int) < (s.size : Int) := by omega
        have hq0 : (0 : Int) ≤ ((skipAt s m : Nat) : Int) := by omega
        have HQ := Lib.hid hq
        clear hq
        have hqb : (((skipAt s m : Nat) : Int) == (s.size : Int)) = false := by simp; omega
        cases hb : Lx.begins (s[skipAt s m]'hq') with
        | false =>
          have hR : (Lx.toks s.data.toList).2 = some (10, skipAt s m) := HE.out.symm.trans (by rw [go_byte hm hq' hb])
          have HR := Lib.hid hR
          clear hR
          go_wp2_with (first | (go_at_call 57; refine hsk'.mono ?_; clear hsk'; rintro e w5 ⟨rfl, hC5, hg5, hG5⟩; have c0 := hC5.c0; have c1 := hC5.c1; have cf1 := hC5.f1) | (go_at_call 58; refine (lexBegins _ _).mono ?_; rintro e w' ⟨rfl, rfl⟩) | (go_at_call 56; refine (lexWrong _ _ _).mono ?_; rintro e w' ⟨rfl, rfl⟩))
          go_ret
          refine ⟨hg5.trans (World.grownBy_alloc _ _ _), ?_⟩
          rw [HR.out]
          exact ⟨_, rfl, heap_alloc_new _ _, hg5.size⟩
        | true =>
          by_cases h4 : i = 4096
          · have hR : (Lx.toks s.data.toList).2 = some (3, skipAt s m) := HE.out.symm.trans (by rw [go_many hm hq' hb h4])
            have HR := Lib.hid hR
            have h4b : ((i : Int) == 4096) = true := by simp; omega
            clear hR h4
            go_wp2_with (first | (go_at_call 57; refine hsk'.mono ?_; clear hsk'; rintro e w5 ⟨rfl, hC5, hg5, hG5⟩; have c0 := hC5.c0; have c1 := hC5.c1; have cf1 := hC5.f1) | (go_at_call 58; refine (lexBegins _ _).mono ?_; rintro e w' ⟨rfl, rfl⟩) | (go_at_call 56; refine (lexWrong _ _ _).mono ?_; rintro e w' ⟨rfl, rfl⟩))
            go_ret
            refine ⟨hg5.trans (World.grownBy_alloc _ _ _), ?_⟩
            rw [HR.out]
            exact ⟨_, rfl, heap_alloc_new _ _, hg5.size⟩
          · have h4b : ((i : Int) == 4096) = false := by simp; omega
            have i2 : (i : Int) < 4096 := by omega
            have H4 := Lib.hid h4
            clear h4
            have HB := Lib.hid hb
            cases hc : Lx.cut (skipAt s m) (s.data.toList.drop (skipAt s m)) with
            | bad y x =>
              have hR : (Lx.toks s.data.toList).2 = some (y, x) := HE.out.symm.trans (by rw [go_bad hm hq' hb H4.out hc])
              have HR := Lib.hid hR
              have HX := Lib.hid hc
              clear hR hc
              go_wp2_with (first | (go_at_call 57; refine hsk'.mono ?_; clear hsk'; rintro e w5 ⟨rfl, hC5, hg5, hG5⟩; have c0 := hC5.c0; have c1 := hC5.c1; have cf1 := hC5.f1) | (go_at_call 58; refine (lexBegins _ _).mono ?_; rintro e w' ⟨rfl, rfl⟩) | (go_at_call 59; refine (lexToken s w.heap.size (skipAt s m) _ hC5 hq' hs hG5 hN HB.out).mono ?_; intro e w6 hres; obtain ⟨g, j, rfl, hg6, hR6, hgl, hC6⟩ := ResIs.bad' HX.out hres; clear hres))
              go_ret
              refine ⟨(grown_in hg5 hg6 (Nat.le_refl _)).trans (World.grownBy_alloc _ _ _), ?_⟩
              rw [HR.out]
              refine ⟨_, rfl, hR6.alloc _, by have := hg5.size; omega⟩
            | ok t n =>
              have HX := Lib.hid hc
              have hR := HE.out
              rw [go_ok hm hq' hb H4.out hc] at hR
              have HR := Lib.hid hR
              obtain ⟨hn0, hfit⟩ := cut_fits hq' hc
              clear hR hc
              go_wp2_with (first | (go_at_call 57; refine hsk'.mono ?_; clear hsk'; rintro e w5 ⟨rfl, hC5, hg5, hG5⟩; have c0 := hC5.c0; have c1 := hC5.c1; have cf1 := hC5.f1) | (go_at_call 58; refine (lexBegins _ _).mono ?_; rintro e w' ⟨rfl, rfl⟩) | (go_at_call 59; refine (lexToken s w.heap.size (skipAt s m) _ hC5 hq' hs hG5 hN HB.out).mono ?_; intro e w6 hres; obtain ⟨rfl, hg6, hC6⟩ := ResIs.ok' HX.out hres; clear hres) | (go_at_call 39; refine (lexTell _ _ _ _ _ _).mono ?_; rintro e w8 ⟨rfl, hg8⟩))
              go_roundg (s.size - (skipAt s m + n))
              case measure => have := HN.out; omega
              case rel => exact ⟨skipAt s m + n, i + 1, f, rfl, by simp, by omega, hfit, (hC6.alloc _).kept hg8 (fun e => nomatch e), ((grown_in hg5 hg6 (Nat.le_refl _)).trans (World.grownBy_alloc _ _ _)).trans hg8, by omega, HR.out⟩

end Go.Proofs.YtbhdkkkaeabkhaaGreatDoor
