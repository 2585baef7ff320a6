/-
  'for x := range seq { body }' over an iterator that keeps state of its own in cells of one type (T): the statement's law, out of the round's, the statement's and the record's steps.
-/
import Derived.RangeFuncNested
import Derived.RangeFuncBound
import Derived.RangeFuncCalls
import Derived.RangeFuncLeaves
import Derived.Shelf.Abstract
import Derived.Shelf.RegionOpen
import Derived.WalkKit
import Derived.OwnWalkIn
import Derived.TacticsInMore
import Derived.LoopNIn
import Derived.LoopIn

namespace Go.Proofs.YtbhdkkkaeabkhaaGreatDoor
open Go.RowKit Go.Shelf
set_option linter.unusedSimpArgs false
set_option linter.unusedVariables false

/-- A block of cells of type T. -/
def OfT (T : Nat) (o : Obj) : Prop := ∃ cs fr, o = .cells cs T fr
/-- What a round that goes on keeps: what lies below n₀, and each block of cells of type T. -/
structure KeepT (T n₀ : Nat) (W W' : World) : Prop where
  size : W.heap.size ≤ W'.heap.size
  low : ∀ k, k < n₀ → k < W.heap.size → W'.heap[k]? = W.heap[k]?
  own : ∀ (k : Nat) (o : Obj), W.heap[k]? = some o → OfT T o → W'.heap[k]? = some o
/-- A condition that abides new blocks, and a turn of a block from B on, if it is no cells or cells of type T. -/
def AbT {β : Type} (T B : Nat) (J : β → World → Prop) : Prop :=
  ∀ s W W' row, J s W → W.grownBy W' row → (∀ r, row = some r → B ≤ r ∧ ∃ o : Obj, W.heap[r]? = some o ∧ (o.isCells = false ∨ OfT T o)) → J s W'
/-- .. of the iterator's own alone. -/
def AbI {β : Type} (T B : Nat) (J : β → World → Prop) : Prop :=
  ∀ s W W' row, J s W → W.grownBy W' row → (∀ r, row = some r → B ≤ r ∧ ∃ o : Obj, W.heap[r]? = some o ∧ OfT T o) → J s W'

theorem KeepT.refl (T n₀ : Nat) (W : World) : KeepT T n₀ W W := ⟨Nat.le_refl _, fun _ _ _ => rfl, fun _ _ h _ => h⟩
theorem KeepT.trans {T n₀ : Nat} {A B C : World} (h : KeepT T n₀ A B) (k : KeepT T n₀ B C) : KeepT T n₀ A C :=
  ⟨Nat.le_trans h.size k.size, fun i hi hA => (k.low i hi (Nat.lt_of_lt_of_le hA h.size)).trans (h.low i hi hA), fun i o hi ho => k.own i o (h.own i o hi ho) ho⟩
theorem KeepT.alloc (T n₀ : Nat) (W : World) (o : Obj) : KeepT T n₀ W (W.alloc o) :=
  ⟨by simp, fun k _ hk => Below.heap_alloc W o k hk, fun k o' hk _ => (Below.heap_alloc W o k (Array.getElem?_eq_some_iff.1 hk).1).trans hk⟩
/-- One block alone turned, at n₀ or beyond, no block of type T. -/
theorem KeepT.of_grownBy {T n₀ : Nat} {W W' : World} {row : Option Nat} (hg : W.grownBy W' row) (hr : ∀ r, row = some r → n₀ ≤ r ∧ ∀ o, W.heap[r]? = some o → ¬ OfT T o) : KeepT T n₀ W W' :=
  ⟨hg.size, fun k hk hlt => hg.block k hlt (fun e => by have := (hr k e.symm).1; omega), fun k o hk ho =>
    (hg.block k (Array.getElem?_eq_some_iff.1 hk).1 (fun e => (hr k e.symm).2 o hk ho)).trans hk⟩
theorem AbT.put {β : Type} {T B : Nat} {J : β → World → Prop} (h : AbT T B J) {s : β} {W : World} {l : Nat} {o : Obj} (o' : Obj) (hs : J s W) (hB : B ≤ l) (hl : W.heap[l]? = some o) (ho : o.isCells = false) : J s (W.putObj l o') :=
  h s W _ (some l) hs (grownBy_putObj' W l o') (fun r e => by cases e; exact ⟨hB, o, hl, .inl ho⟩)
theorem AbT.new {β : Type} {T B : Nat} {J : β → World → Prop} (h : AbT T B J) {s : β} {W : World} (o : Obj) (hs : J s W) : J s (W.alloc o) :=
  h s W _ none hs (World.grownBy_alloc W o none) (fun r e => by cases e)

section
variable {F : Fence} {n : Nat} {P : Program}

/-- THE ITERATOR's CONTRACT. -/
def SeqT {α : Type} (T n₀ : Nat) (F : Fence) (n : Nat) (P : Program) (g : Nat) (lb : Array Value) (encs : α → Array Value) (S Sp : List α → Prop) (Rn : List α → α → Prop) (w : World) : Prop :=
  ∀ (l : Nat) (J Jx : List α → World → Prop) (W : World), Below w.heap.size w W → AbI T W.heap.size J → AbI T W.heap.size Jx →
    (∀ pre x W1, J pre W1 → Rn pre x → YieldAt F (n - 1) P l (encs x) W1 fun e W' =>
      (e = .returned (.bool true) ∧ J (pre ++ [x]) W' ∧ KeepT T n₀ W1 W') ∨ (e = .returned (.bool false) ∧ Jx (pre ++ [x]) W')) →
    J [] W →
    CallsIn F n P g (#[.func (.yield l) #[] #[]] ++ lb) W fun e W' => (∃ v, e = .returned v) ∧ ((∃ xs, S xs ∧ J xs W') ∨ (∃ pre, Sp pre ∧ Jx pre W'))

/-- How a round's body is left. -/
def roundT {α : Type} (T n₀ : Nat) (I : List α → World → Prop) (Ix : Code → List α → World → Prop) (xs : List α) (W : World) : Exit → Act → World → Prop
  | .normal, _, W' => KeepsOthers W W' ∧ KeepT T n₀ W W' ∧ I xs W'
  | .ret, _, W' => KeepsOthers W W' ∧ Ix .ret xs W'
  | .exit id, _, W' => KeepsOthers W W' ∧ Ix (.exit id) xs W'
  | .goto t, _, W' => KeepsOthers W W' ∧ Ix (.goto t) xs W'
  | .panic _, _, _ => False
  | .outgrown, _, _ => False

theorem range_T {α : Type} {T n₀ : Nat} {g : Operand} {ps : Array Tmp} {assign body : Code} {Q : Exit → Act → World → Prop} {a : Act} {w : World}
    (hro : F.round = none) (h1 : 1 ≤ n) {gf : Nat} {lb : Array Value} (hg : a.eval g = .func (.func gf) #[] lb) (hFg : F.fn gf) (eg : ∀ args w, (callFunc gf args).run P w = .ok (.enter gf args) w)
    {encs : α → Array Value} {S Sp : List α → Prop} {Rn : List α → α → Prop} {w0 : World} (hseq : SeqT T n₀ F (n - 1) P gf lb encs S Sp Rn w0) (hb0 : Below w0.heap.size w0 w) (hn₀ : n₀ ≤ w.heap.size) (hps : ∀ x, (encs x).size = ps.size)
    (I : List α → World → Prop) (Ix : Code → List α → World → Prop) (Ax : α → Act → World → Prop) (hI : AbT T w.heap.size I) (hIx : ∀ c, AbT T w.heap.size (Ix c)) (hAx : ∀ a₁, AbT T w.heap.size (fun x W => Ax x a₁ W)) (h0 : I [] w)
    (hassign : ∀ (l : Nat) (pre : List α) (x : α) (W : World), w.heap.size ≤ l → I pre W → Rn pre x →
      assign.wpIn (F.inRound l) (n - 1 - 1) P (Exit.then (fun a₁ W₁ => W.grownBy W₁ none ∧ Ax x a₁ W₁) (fun _ _ _ => False)) { tmps := (ps.zip (encs x)).foldl (fun t (p, v) => t.setIfInBounds p v) a.tmps, defers := [] } W)
    (hbody : ∀ (l : Nat) (pre : List α) (x : α) (a₁ : Act) (W : World), w.heap.size ≤ l → I pre W → Ax x a₁ W → Rn pre x → body.wpIn (F.inRound l) (n - 1 - 1) P (roundT T n₀ I Ix (pre ++ [x]) W) a₁ W)
    (hdone : ∀ (D : Nat) (xs : List α) (W : World), w.heap.size ≤ D → S xs → I xs W → W.heap[D]? = some (.deferred (some [])) → Q .normal { a with defers := { target := .collected D, args := #[] } :: a.defers } W)
    (hstop : ∀ (D : Nat) (c : Code) (pre : List α) (W : World), w.heap.size ≤ D → Sp pre → Ix c pre W → W.heap[D]? = some (.deferred (some [])) → c.wpIn F n P Q { a with defers := { target := .collected D, args := #[] } :: a.defers } W) :
    (Code.rangeFunc g ps assign body).wpIn F n P Q a w := by
  apply wpIn_rangeFunc
  intro fn hfn
  rw [hro]
  -- the record, in each of its states
  let rec_ : LoopState → Option Code → Loop := fun st pe => { state := st, pending := pe, fn, tmps := a.tmps, params := ps, assign, body, defers := w.heap.size }
  have hrd : ∀ st pe, rec_ st pe = { state := st, pending := pe, fn, tmps := a.tmps, params := ps, assign, body, defers := w.heap.size } := fun _ _ => rfl
  let W1 : World := (w.alloc (.deferred (some []))).alloc (.loop (rec_ .ready none))
  have hsz : W1.heap.size = w.heap.size + 2 := by simp [W1]
  have hL1 : W1.heap[w.heap.size + 1]? = some (.loop (rec_ .ready none)) := by
    have := World.alloc_heap_new (w.alloc (.deferred (some []))) (.loop (rec_ .ready none))
    rwa [World.size_alloc] at this
  have hK1 : W1.heap[w.heap.size]? = some (.deferred (some [])) := (Below.heap_alloc _ _ _ (by simp)).trans (World.alloc_heap_new w _)
  have hI1 : I [] W1 := hI.new _ (hI.new _ h0)
  have hb1 : Below w0.heap.size w0 W1 := hb0.trans ((((Below.refl _ w).alloc (Nat.le_refl _) _).alloc (by simp) _).mono hb0.size)
  refine ⟨w.heap.size + 1, [{ target := .collected w.heap.size, args := #[] }], W1, { target := .fn (.func gf) lb, args := #[.func (.yield (w.heap.size + 1)) #[] #[]] }, W1, gf,
    #[.func (.yield (w.heap.size + 1)) #[] #[]] ++ lb, W1, run_enterLoop_outer _ _ _ _ _, by simp only [resolve, hg]; simp [go_sem], fun f' hf' => by simp [Target.leads] at hf'; subst hf'; exact hFg,
    by simp [invoke, go_sem, eg], fun _ => h1, ?_⟩
  -- what the iterator's own turns leave
  have hlie : ∀ {A B : World} {row : Option Nat} {k : Nat} {o : Obj}, A.grownBy B row → (∀ r, row = some r → W1.heap.size ≤ r ∧ ∃ o : Obj, A.heap[r]? = some o ∧ OfT T o) → A.heap[k]? = some o → k < W1.heap.size → B.heap[k]? = some o :=
    fun hg' hr hk hlt => (hg'.block _ (Array.getElem?_eq_some_iff.1 hk).1 (fun e => by have := (hr _ e.symm).1; omega)).trans hk
  have hup : ∀ {A : World} {row : Option Nat}, (∀ r, row = some r → W1.heap.size ≤ r ∧ ∃ o : Obj, A.heap[r]? = some o ∧ OfT T o) → (∀ r, row = some r → w.heap.size ≤ r ∧ ∃ o : Obj, A.heap[r]? = some o ∧ (o.isCells = false ∨ OfT T o)) :=
    fun hr r e => by obtain ⟨hB, o, ho, hT⟩ := hr r e; exact ⟨by omega, o, ho, .inr hT⟩
  refine (hseq (w.heap.size + 1)
    (fun pre W => I pre W ∧ W.heap[w.heap.size + 1]? = some (.loop (rec_ .ready none)) ∧ W.heap[w.heap.size]? = some (.deferred (some [])))
    (fun pre W => ∃ c, Ix c pre W ∧ W.heap[w.heap.size + 1]? = some (.loop (rec_ .done (some c))) ∧ W.heap[w.heap.size]? = some (.deferred (some [])))
    W1 hb1 (fun s A B row hs hg' hr => ⟨hI s A B row hs.1 hg' (hup hr), hlie hg' hr hs.2.1 (by omega), hlie hg' hr hs.2.2 (by omega)⟩)
    (fun s A B row hs hg' hr => by obtain ⟨c, hc, hl, hk⟩ := hs; exact ⟨c, hIx c s A B row hc hg' (hup hr), hlie hg' hr hl (by omega), hlie hg' hr hk (by omega)⟩)
    ?_ ⟨hI1, hL1, hK1⟩).mono ?_
  · rintro pre x W ⟨hi, hl, hk⟩ hlen
    have hy := run_yield (P := P) (args := encs x) hl (by exact hps x)
    refine ⟨fn, _, assign, body, hy, roundIn_of_wpIn hfn (wpIn_mono (hassign _ pre x W (by omega) hi hlen) ?_)⟩
    intro e a₁ W₁ hp
    cases e with
    | normal =>
      obtain ⟨hgr, hax⟩ := hp
      have hi' : I pre W₁ := hI _ _ _ none hi hgr (fun r e => nomatch e)
      have hl' : W₁.heap[w.heap.size + 1]? = some (.loop (rec_ .ready none)) := (hgr.block _ (Array.getElem?_eq_some_iff.1 hl).1 (fun e => nomatch e)).trans hl
      have hk' : W₁.heap[w.heap.size]? = some (.deferred (some [])) := (hgr.block _ (Array.getElem?_eq_some_iff.1 hk).1 (fun e => nomatch e)).trans hk
      have hlt : w.heap.size + 1 < W₁.heap.size := (Array.getElem?_eq_some_iff.1 hl').1
      refine ⟨_, run_beginRound hl' rfl, ?_⟩
      let W₂ : World := W₁.putObj (w.heap.size + 1) (.loop { rec_ .ready none with state := .busy })
      have hl2 : W₂.heap[w.heap.size + 1]? = some (.loop { rec_ .ready none with state := .busy }) := World.putObj_heap_same hlt
      have hk2 : W₂.heap[w.heap.size]? = some (.deferred (some [])) := (World.putObj_heap_other (by omega)).trans hk'
      have hput : ∀ (A : World) (l : Loop) (o' : Obj), A.heap[w.heap.size + 1]? = some (.loop l) → KeepT T n₀ A (A.putObj (w.heap.size + 1) o') := fun A l o' hA =>
        KeepT.of_grownBy (grownBy_putObj' A _ o') (fun r e => by cases e; exact ⟨by omega, fun o ho ⟨cs, fr, he⟩ => by rw [hA] at ho; cases ho; cases he⟩)
      have hw2 : KeepT T n₀ W W₂ := (KeepT.of_grownBy hgr (fun r e => nomatch e)).trans (hput W₁ _ _ hl')
      refine wpIn_mono (hbody _ pre x a₁ W₂ (by omega) (hI.put _ hi' (by omega) hl' rfl) ((hAx a₁).put _ hax (by omega) hl' rfl) hlen) ?_
      have fin : ∀ (jump : Option Code) (W3 : World), KeepsOthers W₂ W3 →
          ∃ lp, W3.heap[w.heap.size + 1]? = some (.loop lp) ∧ (Instr.endRound (w.heap.size + 1) jump).run P W3 = .ok (.bool jump.isNone) (W3.putObj (w.heap.size + 1) (.loop (rec_ (if jump.isNone then .ready else .done) jump))) ∧
          (W3.putObj (w.heap.size + 1) (.loop (rec_ (if jump.isNone then .ready else .done) jump))).heap[w.heap.size + 1]? = some (.loop (rec_ (if jump.isNone then .ready else .done) jump)) ∧
          (W3.putObj (w.heap.size + 1) (.loop (rec_ (if jump.isNone then .ready else .done) jump))).heap[w.heap.size]? = some (.deferred (some [])) := fun jump W3 hk3 => by
        have hl3 := hk3.same _ _ hl2 rfl
        exact ⟨_, hl3, run_endRound (P := P) jump hl3, World.putObj_heap_same (Array.getElem?_eq_some_iff.1 hl3).1, (World.putObj_heap_other (by omega)).trans (hk3.same _ _ hk2 rfl)⟩
      intro e a3 W3 hp
      cases e with
      | normal =>
        obtain ⟨hk3, hkp3, hi3⟩ := hp
        obtain ⟨lp, hl3, hr, hl4, hk4⟩ := fin none W3 hk3
        exact ⟨_, _, hr, .inl ⟨rfl, ⟨hI.put _ hi3 (by omega) hl3 rfl, hl4, hk4⟩, (hw2.trans hkp3).trans (hput W3 _ _ hl3)⟩⟩
      | ret =>
        obtain ⟨hk3, hi3⟩ := hp
        obtain ⟨lp, hl3, hr, hl4, hk4⟩ := fin (some .ret) W3 hk3
        exact ⟨_, _, hr, .inr ⟨rfl, .ret, (hIx _).put _ hi3 (by omega) hl3 rfl, hl4, hk4⟩⟩
      | exit id =>
        obtain ⟨hk3, hi3⟩ := hp
        obtain ⟨lp, hl3, hr, hl4, hk4⟩ := fin (some (.exit id)) W3 hk3
        exact ⟨_, _, hr, .inr ⟨rfl, .exit id, (hIx _).put _ hi3 (by omega) hl3 rfl, hl4, hk4⟩⟩
      | goto t =>
        obtain ⟨hk3, hi3⟩ := hp
        obtain ⟨lp, hl3, hr, hl4, hk4⟩ := fin (some (.goto t)) W3 hk3
        exact ⟨_, _, hr, .inr ⟨rfl, .goto t, (hIx _).put _ hi3 (by omega) hl3 rfl, hl4, hk4⟩⟩
      | panic ch => exact hp.elim
      | outgrown => exact hp.elim
    | _ => exact hp.elim
  · rintro e W2 ⟨⟨v, rfl⟩, (⟨xs, hS, hi, hl, hk⟩ | ⟨pre, hSp, c, hi, hl, hk⟩)⟩
    · exact ⟨none, _, run_endLoop (P := P) hl (by simp [hrd]), hdone _ xs _ (Nat.le_refl _) hS (hI.put _ hi (by omega) hl rfl) ((World.putObj_heap_other (by omega)).trans hk)⟩
    · exact ⟨some c, _, run_endLoop (P := P) hl (by simp [hrd]), hstop _ c pre _ (Nat.le_refl _) hSp ((hIx c).put _ hi (by omega) hl rfl) ((World.putObj_heap_other (by omega)).trans hk)⟩
end

/-- Where no depth is asked, the figures are all one. -/
theorem room_free {F : Fence} (hd : F.depth = none) (k : Nat) : F.room k := fun d h => by rw [hd] at h; cases h
theorem roundIn_any {F : Fence} (hd : F.depth = none) {m m' : Nat} {P : Program} {l : Nat} {f : FuncId} {tmps : Array Value} {assign body : Code} {w : World} {R : Ending → World → Prop}
    (h : RoundIn F m P l f tmps assign body w R) : RoundIn F m' P l f tmps assign body w R := ⟨h.1, fun c cs _ => h.2 c cs (room_free hd _)⟩
theorem yieldAt_any {F : Fence} (hd : F.depth = none) {m : Nat} (m' : Nat) {P : Program} {l : Nat} {args : Array Value} {W : World} {R : Ending → World → Prop} (h : YieldAt F m P l args W R) : YieldAt F m' P l args W R := by
  obtain ⟨fn, tmps, assign, body, hy, hR⟩ := h
  exact ⟨fn, tmps, assign, body, hy, roundIn_any hd hR⟩

end Go.Proofs.YtbhdkkkaeabkhaaGreatDoor
