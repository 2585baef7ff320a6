/-
  Rows of texts that a region builds, whatever the order.
-/
/-
 Rows of texts that a region builds, whatever the order.
 A region that draws its order and builds a row of texts, over facts.
 What an operation finds: short laws for each kind of operation.
 The walk of coilref2.signature, over the contract of coilref2.Typed.
 The walk of coilref2.Typed at the kinds without a loop.
 The walk of coilref2.Typed at records and interfaces.
-/
import Derived.Test.YtdncljdfmdgdaaaGreatDoorM22
import Derived.Test.YtdncljdfmdgdaaaGreatDoorM11
import Derived.Test.YtdncljdfmdgdaaaGreatDoorM13
import Derived.Test.YtdncljdfmdgdaaaGreatDoorM14
namespace Go.Proofs.YtdncljdfmdgdaaaGreatDoor
open Go.RowKit Go.Shelf
set_option linter.unusedSimpArgs false
set_option linter.unusedVariables false
structure Mv (w : World) (r : Value) (w' : World) (r' : Value) : Prop where
 g : w.grownBy w' r.ownBlock
 own : ∀ k, r'.ownBlock = some k → r.ownBlock = some k ∨ w.heap.size ≤ k
theorem Mv.refl (w : World) (r : Value) : Mv w r w r := ⟨⟨rfl, rfl, rfl, Nat.le_refl _, fun _ _ _ => rfl⟩, fun _ h => .inl h⟩
theorem Mv.of_below {w w' : World} (r : Value) (h : Below w.heap.size w w') : Mv w r w' r := ⟨⟨h.os, h.tape, h.output, h.size, fun k hk _ => h.block k hk⟩, fun _ h => .inl h⟩
theorem Mv.first {w w' : World} {r r' : Value} (h : Below w.heap.size w w') (hr : ∀ k, r'.ownBlock = some k → w.heap.size ≤ k) : Mv w r w' r' := ⟨⟨h.os, h.tape, h.output, h.size, fun k hk _ => h.block k hk⟩, fun k hk => .inr (hr k hk)⟩
theorem belowMv {B : Nat} {w0 w w' : World} {r r' : Value} (hb : Below B w0 w) (hB : B ≤ w.heap.size) (h : Mv w r w' r') (hr : ∀ k, r.ownBlock = some k → B ≤ k) : Below B w0 w' :=
 ⟨h.g.os.trans hb.os, h.g.tape.trans hb.tape, h.g.output.trans hb.output, Nat.le_trans hb.size h.g.size, fun k hk => (h.g.block k (by omega) fun e => by have := hr k e.symm; omega).trans (hb.block k hk)⟩
def Str (w : World) (v : Value) (m : List Lx.Bytes) (r : Value) : Prop :=
 ∃ A c, v = .slice A m.length c ∧ ∀ j u, (strsV m)[j]? = some u → ∃ g off, A = some ⟨g, off, none⟩ ∧ w.cell? ⟨g, off + j, none⟩ = some u ∧ r.ownBlock ≠ some g
theorem Str.mv {w w' : World} {v r r' : Value} {m : List Lx.Bytes} (h : Str w v m r) (hm : Mv w r w' r') : Str w' v m r' := by
 obtain ⟨A, c, hv, hl⟩ := h
 refine ⟨A, c, hv, fun j u hj => ?_⟩
 obtain ⟨g, off, hA, hc, hr⟩ := hl j u hj
 have hg := World.block_lt_of_cell? w ⟨g, off + j, none⟩ hc
 refine ⟨g, off, hA, (World.cell?_of_block (hm.g.block g hg fun e => hr e.symm)).trans hc, fun e => ?_⟩
 rcases hm.own g e with h | h
 ·exact hr h
 ·exact absurd hg (Nat.not_lt.2 h)
theorem Str.one {w : World} {g : Nat} {s : Lx.Bytes} {r : Value} {c : Nat} {t : TypeId} {fr : Nat × Nat} (h : w.heap[g]? = some (.cells #[.string ⟨s.toArray⟩] t fr)) (hr : ∀ k, r.ownBlock = some k → k < g) : Str w (.slice (some ⟨g, 0, none⟩) 1 c) [s] r := by
 refine ⟨_, c, rfl, fun j u hj => ⟨g, 0, rfl, ?_, fun e => by have := hr g e; omega⟩⟩
 rw [Nat.zero_add, cell_of h, ← Array.getElem?_toList]
 exact hj
theorem Str.of_own {w : World} {B : Nat} {v r : Value} {m : List Lx.Bytes} (h : OwnS w B v m) (hr : ∀ k, r.ownBlock = some k → k < B) : Str w v m r := by
 have hrow := h.row
 obtain ⟨A, c, rfl⟩ := h.slice
 refine ⟨A, c, rfl, fun j u hj => ?_⟩
 obtain ⟨g, off, hA, hc⟩ := hrow.cells.2 j u hj
 refine ⟨g, off, hA, hc, fun e => ?_⟩
 have h1 := hr g e
 have h2 := World.ownsRow.lt h g ?_
 ·omega
 ·rcases h.2 with ⟨h3, -⟩ | ⟨g', cap, cur, h3, -⟩
  ·rw [hA] at h3; injection h3 with h3; cases h3
  ·injection h3 with h3
   rw [hA] at h3
   injection h3 with h3
   injection h3 with h3
   subst h3
   rw [hA]
   subst_vars
   rfl
theorem OwnS.lt {w : World} {B : Nat} {v : Value} {l : List Lx.Bytes} (h : OwnS w B v l) (k : Nat) (hk : v.ownBlock = some k) : B ≤ k ∧ k < w.heap.size := World.ownsRow.lt h k hk
theorem OwnS.below {w w' : World} {B : Nat} {v : Value} {l : List Lx.Bytes} (h : OwnS w B v l) (hb : Below w.heap.size w w') : OwnS w' B v l :=
 World.ownsRow.kept h (zoZ hb) (by cases v.ownBlock <;> simp)
theorem OwnS.base_le {w : World} {B B' : Nat} {v : Value} {l : List Lx.Bytes} (h : OwnS w B v l) (hb : B' ≤ B) : OwnS w B' v l := by
 refine ⟨h.1, ?_⟩
 rcases h.2 with hn | ⟨g, cap, cur, rfl, hg, rest⟩
 ·exact .inl hn
 ·exact .inr ⟨g, cap, cur, rfl, by omega, rest⟩
theorem zduZ (l m : List Lx.Bytes) : strsV (l ++ m) = strsV l ++ strsV m := by unfold strsV; rw [List.map_append]
set_option maxRecDepth 100000 in
theorem zkfZ {w : World} {o : Oper} {a : Act} {K : Act → World → Prop} {Q : Exit → Act → World → Prop} (s x : Operand)
  (ho : o.op = .call { callee := .builtin .append, args := #[s, x], argTypes := #[22, 22] })
  {B : Nat} {r v : Value} {l m : List Lx.Bytes} (hs : a.eval s = r) (hx : a.eval x = v) (hown : OwnS w B r l) (hv : Str w v m r) (hm : 0 < m.length) (hn : l.length + m.length ≤ 100000000) (hB : B ≤ w.heap.size)
  (h : ∀ r' w', OwnS w' B r' (l ++ m) → Mv w r w' r' → K (a.put o.dst r') w') : o.wp Tryz.prog a w K Q := by
 obtain ⟨i, hi, hz0, hz1, hz2⟩ := info_parts infoStr
 obtain ⟨A, c, rfl, hl⟩ := hv
 obtain ⟨ad, rfl⟩ : ∃ ad, A = some ad := by
  cases m with
  | nil => simp at hm
  | cons u m => obtain ⟨g, off, h, -⟩ := hl 0 _ (by simp [strsV]; rfl); exact ⟨_, h⟩
 refine zbxZ s x 22 ho B 9 i _ 1 16 Tryz.underlying22 hi hz0 hz1 hz2 rfl (by decide) r l.length (strsV l) hs hown ad m.length c (strsV m) hx (by unfold strsV; simp) ?_ (zdnZ m) (by unfold maxLen; omega) (by omega) hB ?_
 ·intro j u hj
  obtain ⟨g, off, hA, hc, -⟩ := hl j u hj
  injection hA with hA
  subst hA
  rw [zbjZ]
  exact hc
 ·intro v' w' hown' hg hob
  refine h v' w' ?_ ⟨hg, fun k hk => ?_⟩
  ·unfold OwnS
   rw [zduZ, List.length_append]
   exact hown'
  ·rcases hob with h | h
   ·exact .inl (h.symm.trans hk)
   ·right
    rw [h] at hk
    injection hk with hk
    omega
theorem zlZ {w : World} {ops : Array Oper} {rest : List Oper} {o : Oper} {a : Act} {Q : Exit → Act → World → Prop} (hgd : o.guard = none) (s x : Operand)
  (ho : o.op = .call { callee := .builtin .append, args := #[s, x], argTypes := #[22, 22] })
  {B : Nat} {r v : Value} {l m : List Lx.Bytes} (hs : a.eval s = r) (hx : a.eval x = v) (hown : OwnS w B r l) (hv : Str w v m r) (hm : 0 < m.length) (hn : l.length + m.length ≤ 100000000) (hB : B ≤ w.heap.size)
  (h : ∀ r' w', OwnS w' B r' (l ++ m) → Mv w r w' r' → wpList Tryz.prog ops Q rest (a.put o.dst r') w') : wpList Tryz.prog ops Q (o :: rest) a w :=
 wpList_plain hgd fun K hK => zkfZ s x ho hs hx hown hv hm hn hB fun A c h2 h3 => hK _ _ (h A c h2 h3)
end Go.Proofs.YtdncljdfmdgdaaaGreatDoor
namespace Go.Proofs.YtdncljdfmdgdaaaGreatDoor
open Go.RowKit Go.Shelf
set_option linter.unusedSimpArgs false
set_option linter.unusedVariables false
def RowI (B : Nat) (W : World) (R0 : Value) (Ls : Nat → List Lx.Bytes) : Nat → World → Value → Prop := fun k w r => Below B W w ∧ OwnS w B r (Ls k) ∧ (k = 0 → r = R0)
def RowM : World → Value → Nat → World → Value → Nat → Prop := fun w r k w' r' k' => Mv w r w' r' ∧ k ≤ k' ∧ (k' = k → r' = r)
def AppF (j : Nat) : Value → World → Value → Nat → Prop := fun x _ r k => j + 1 ≤ k ∧ (k = j + 1 → r = x)
def StrF (m : List Lx.Bytes) : Value → World → Value → Nat → Prop := fun x w r _ => Str w x m r
def IsF (v : Value) : Value → World → Value → Nat → Prop := fun x _ _ _ => x = v
theorem IsF.stays {M : World → Value → Nat → World → Value → Nat → Prop} {v : Value} : Stays M (IsF v) := fun _ _ _ _ _ _ _ _ h => h
theorem AppF.stays {j : Nat} : Stays RowM (AppF j) := fun x w r k w' r' k' hm h => by
 obtain ⟨-, h2, h3⟩ := hm
 refine ⟨by have := h.1; omega, fun e => ?_⟩
 have hk : k' = k := by have := h.1; omega
 rw [h3 hk]
 exact h.2 (by omega)
theorem StrF.stays {m : List Lx.Bytes} : Stays RowM (StrF m) := fun x w r k w' r' k' hm h => Str.mv h hm.1
theorem RowM.of_below {w w' : World} {r : Value} {k : Nat} (h : Below w.heap.size w w') : RowM w r k w' r k := ⟨Mv.of_below r h, Nat.le_refl _, fun _ => rfl⟩
theorem RowM.refl {w : World} {r : Value} {k : Nat} : RowM w r k w r k := ⟨Mv.refl w r, Nat.le_refl _, fun _ => rfl⟩
theorem RowM.first {w w' : World} {r r' : Value} {l : List Lx.Bytes} (h : Below w.heap.size w w') (ho : OwnS w' w.heap.size r' l) : RowM w r 0 w' r' 1 := ⟨Mv.first h fun k hk => (ho.lt k hk).1, by omega, fun e => by omega⟩
theorem RowI.first {B : Nat} {W w w' : World} {R0 r' : Value} {Ls : Nat → List Lx.Bytes} {l : List Lx.Bytes} (h : Below B W w) (hB : B ≤ W.heap.size) (hb : Below w.heap.size w w') (ho : OwnS w' w.heap.size r' l) (hl : Ls 1 = l) : RowI B W R0 Ls 1 w' r' :=
 ⟨h.trans (hb.mono (Nat.le_trans hB h.size)), by rw [hl]; exact ho.base_le (Nat.le_trans hB h.size), fun e => by omega⟩
theorem AppF.first {x : Value} {w : World} : AppF 0 x w x 1 := ⟨Nat.le_refl _, fun _ => rfl⟩
theorem RowI.below {B : Nat} {W w w' : World} {R0 r : Value} {Ls : Nat → List Lx.Bytes} {k : Nat} (h : RowI B W R0 Ls k w r) (hB : B ≤ W.heap.size) (hb : Below w.heap.size w w') : RowI B W R0 Ls k w' r :=
 ⟨h.1.trans (hb.mono (Nat.le_trans hB h.1.size)), h.2.1.below hb, h.2.2⟩
theorem of_nth {Fs : List (Value → World → Value → Nat → Prop)} {j : Nat} {f : Value → World → Value → Nat → Prop} (h : nth Fs j = f) {x : Value} {w : World} {r : Value} {k : Nat} (hh : nth Fs j x w r k) : f x w r k := by rw [h] at hh; exact hh
theorem to_nth {Fs : List (Value → World → Value → Nat → Prop)} {j : Nat} {f : Value → World → Value → Nat → Prop} (h : nth Fs j = f) {x : Value} {w : World} {r : Value} {k : Nat} (hh : f x w r k) : nth Fs j x w r k := by rw [h]; exact hh
theorem Str.arr {w : World} {g : Nat} {m : List Lx.Bytes} {r : Value} {c : Nat} {t : TypeId} {fr : Nat × Nat} {cs : Array Value} (h : w.heap[g]? = some (.cells cs t fr)) (hcs : cs.toList = strsV m) (hr : ∀ k, r.ownBlock = some k → k < g) : Str w (.slice (some ⟨g, 0, none⟩) m.length c) m r := by
 refine ⟨_, c, rfl, fun j u hj => ⟨g, 0, rfl, ?_, fun e => by have := hr g e; omega⟩⟩
 rw [Nat.zero_add, cell_of h, ← Array.getElem?_toList, hcs]
 exact hj
theorem OwnS.arr {w : World} {g B : Nat} {l : List Lx.Bytes} {cs : Array Value} (h : w.heap[g]? = some (.cells cs 9 (0, 0))) (hcs : cs.toList = strsV l) (hm : l.length ≤ maxLen) (hb : B ≤ g) : OwnS w B (.slice (some ⟨g, 0, none⟩) l.length l.length) l := by
 refine ⟨by simp [strsV], .inr ⟨g, l.length, cs, rfl, hb, h, Nat.le_refl _, hm, ?_, ?_⟩⟩
 ·rw [← Array.length_toList, hcs]; simp [strsV]
 ·rw [hcs]; exact List.take_of_length_le (by simp [strsV])
theorem zhlZ {apps : List Nat} {i k : Nat} (h : apps.contains i = false) : nextK apps i k = k := by unfold nextK; rw [h]; rfl
theorem zfvZ {apps : List Nat} {i k : Nat} (h : apps.contains i = true) : nextK apps i k = k + 1 := by unfold nextK; rw [h]; rfl
attribute [local go_sem] opWp zbsZ zccZ zbtZ
section
variable {P : Program} {ops : Array Oper} {Q : Exit → Act → World → Prop} {a : Act} {apps : List Nat} {I : Nat → World → Value → Prop} {M : World → Value → Nat → World → Value → Nat → Prop} {Fs : List (Value → World → Value → Nat → Prop)} {i : Nat} {o : Oper}
theorem OpOk.plain (hi : apps.contains i = false) (hg : o.guard = none)
  (h : ∀ (ρ : Operand → Value) (u : Nat → Value) (L : Nat → Prop) (w : World) (r : Value) (k : Nat),
   (∀ d j, slotAt ops.toList j = some d → ρ (.tmp d) = u j) → (∀ d, (slots ops.toList).contains d = false → ρ (.tmp d) = a.eval (.tmp d)) → (∀ v, ρ (.const v) = v) → (∀ g, ρ (.global g) = .pointer (some ⟨g, 0, none⟩)) → (∀ f, ρ (.func f) = .func (.func f) #[] #[]) →
   (∀ j, edge ops.toList i j = true → L j) → (∀ j j', edge ops.toList j j' = true → L j → L j') → ¬ L i →
   (∀ j, L j → nth Fs j (u j) w r k) → (∀ d j, slotAt ops.toList j = some d → ¬ L j → u j = a.eval (.tmp d)) → (∀ j e, apps[e]? = some j → (L j ↔ e < k)) → I k w r →
   ∀ K : Value → World → Prop, Hid (∀ x w' r', M w r k w' r' k → I k w' r' → nth Fs i x w' r' k → K x w') → opWp P o ρ w K) : OpOk P Q ops a apps I M (nth Fs) i o := by
 intro ρ u L w r k h1 h2 h3 h4 h5 h6 h7 h8 h9 h10 h11 h12 K hK
 rw [zhlZ hi] at hK
 unfold guarded
 rw [hg]
 exact h ρ u L w r k h1 h2 h3 h4 h5 h6 h7 h8 h9 h10 h11 h12 K hK
theorem OpOk.guard (hi : apps.contains i = false) {g : Nat} {b : Bool} (hg : o.guard = some (g, b)) (hgs : (slotAt ops.toList g).isSome = true)
  (h : ∀ (ρ : Operand → Value) (u : Nat → Value) (L : Nat → Prop) (w : World) (r : Value) (k : Nat),
   (∀ d j, slotAt ops.toList j = some d → ρ (.tmp d) = u j) → (∀ d, (slots ops.toList).contains d = false → ρ (.tmp d) = a.eval (.tmp d)) → (∀ v, ρ (.const v) = v) → (∀ g, ρ (.global g) = .pointer (some ⟨g, 0, none⟩)) → (∀ f, ρ (.func f) = .func (.func f) #[] #[]) →
   (∀ j, edge ops.toList i j = true → L j) → (∀ j j', edge ops.toList j j' = true → L j → L j') → ¬ L i →
   (∀ j, L j → nth Fs j (u j) w r k) → (∀ d j, slotAt ops.toList j = some d → ¬ L j → u j = a.eval (.tmp d)) → (∀ j e, apps[e]? = some j → (L j ↔ e < k)) → I k w r →
   ∀ K : Value → World → Prop, Hid (∀ x w' r', M w r k w' r' k → I k w' r' → nth Fs i x w' r' k → K x w') → ∃ c, u g = .bool c ∧ (c = b → opWp P o ρ w K) ∧ (c ≠ b → K undef w)) : OpOk P Q ops a apps I M (nth Fs) i o := by
 intro ρ u L w r k h1 h2 h3 h4 h5 h6 h7 h8 h9 h10 h11 h12 K hK
 rw [zhlZ hi] at hK
 unfold guarded
 rw [hg]
 obtain ⟨c, hc, h13, h14⟩ := h ρ u L w r k h1 h2 h3 h4 h5 h6 h7 h8 h9 h10 h11 h12 K hK
 refine ⟨hgs, fun e => h13 ?_, fun e => h14 fun e2 => e ?_⟩
 ·rw [hc] at e
  injection e
 ·rw [hc, e2]
theorem zfwZ {ρ : Operand → Value} {w : World} {K : Value → World → Prop} {fn : Func} {c : Code} {f : FuncId} {xs : Array Operand} {ats : Array TypeId} {args : Array Value}
  (ho : o.op = .call { callee := .value (.func f), args := xs, argTypes := ats }) (hf : P.funcs[f]? = some fn) (hname : (fn.name == "runtime.NumGoroutine") = false) (hb : fn.body = some c)
  (hfun : ρ (.func f) = .func (.func f) #[] #[]) (ha : xs.map ρ = args) (h : Calls P f args w fun e w'' => ∃ v, e = .returned v ∧ K v w'') : opWp P o ρ w K := by
 have h1 : fn.name ≠ "runtime.NumGoroutine" := by simpa using hname
 unfold opWp execOp
 rw [ho]
 simp [resolve, Deferred.ofValue, invoke, hfun, callFunc, hf, h1, hb, ha, upon2]
 exact h
theorem zkgZ {ρ : Operand → Value} {w : World} {K : Value → World → Prop} (x : Operand) {v : Value} (ho : o.op = .move x) (hx : ρ x = v) (h : K v w) : opWp P o ρ w K := by
 unfold opWp execOp
 rw [ho]
 show K (ρ x) w
 rw [hx]
 exact h
theorem zidZ {ρ : Operand → Value} {w : World} {K : Value → World → Prop} (x : Operand) {v : Value} (ho : o.op = .assign x) (hx : ρ x = v) (h : K v w) : opWp P o ρ w K := by
 unfold opWp execOp
 rw [ho]
 show K (ρ x) w
 rw [hx]
 exact h
end
section
variable {ops : Array Oper} {Q : Exit → Act → World → Prop} {a : Act} {apps : List Nat} {Fs : List (Value → World → Value → Nat → Prop)} {i : Nat} {o : Oper} {B : Nat} {W : World} {R0 : Value} {Ls : Nat → List Lx.Bytes}
set_option maxRecDepth 100000 in
theorem zkhZ {w : World} {o : Oper} {ρ : Operand → Value} {K : Value → World → Prop} (s x : Operand)
  (ho : o.op = .call { callee := .builtin .append, args := #[s, x], argTypes := #[22, 22] })
  {B : Nat} {r v : Value} {l m : List Lx.Bytes} (hs : ρ s = r) (hx : ρ x = v) (hown : OwnS w B r l) (hv : Str w v m r) (hm : 0 < m.length) (hn : l.length + m.length ≤ 100000000) (hB : B ≤ w.heap.size)
  (h : ∀ r' w', OwnS w' B r' (l ++ m) → Mv w r w' r' → K r' w') : opWp Tryz.prog o ρ w K := by
 obtain ⟨i, hi, hz0, hz1, hz2⟩ := info_parts infoStr
 obtain ⟨A, c, rfl, hl⟩ := hv
 obtain ⟨ad, rfl⟩ : ∃ ad, A = some ad := by
  cases m with
  | nil => simp at hm
  | cons u m => obtain ⟨g, off, h, -⟩ := hl 0 _ (by simp [strsV]; rfl); exact ⟨_, h⟩
 obtain ⟨v', w', hr, h2, h3, h4, h5⟩ := run_append_own_at (P := Tryz.prog) w B 22 o.type 9 i _ 1 16 Tryz.underlying22 hi hz0 hz1 hz2 rfl (by decide) r l.length (strsV l) hown ad m.length c (strsV m) (by unfold strsV; simp) (by
  intro j u hj
  obtain ⟨g, off, hA, hc, -⟩ := hl j u hj
  injection hA with hA
  subst hA
  rw [zbjZ]
  exact hc) (zdnZ m) (by unfold maxLen; omega) (by omega) hB
 unfold opWp execOp
 simp only [ho, resolve, invoke, builtin, Sem.run_bind, Sem.run_pure, Result.andThen_ok, List.map_toArray, List.map_cons, List.map_nil, hs, hx, hr]
 refine h v' w' ?_ ⟨h3, fun k hk => ?_⟩
 ·unfold OwnS
  rw [zduZ, List.length_append]
  exact h2
 ·rcases h5 with h | h
  ·exact .inl (h.symm.trans hk)
  ·right
   rw [h] at hk
   injection hk with hk
   omega
theorem OpOk.app {j : Nat} {m : List Lx.Bytes} (s x : Operand) (hi : apps[j]? = some i) (hg : o.guard = none)
  (ho : o.op = .call { callee := .builtin .append, args := #[s, x], argTypes := #[22, 22] }) (hF : nth Fs i = AppF j) (hLs : Ls (j + 1) = Ls j ++ m)
  (hm : 0 < m.length) (hn : (Ls j).length + m.length ≤ 100000000) (hB : B ≤ W.heap.size)
  (h : ∀ (ρ : Operand → Value) (u : Nat → Value) (L : Nat → Prop) (w : World) (r : Value) (k : Nat),
   (∀ d j, slotAt ops.toList j = some d → ρ (.tmp d) = u j) → (∀ d, (slots ops.toList).contains d = false → ρ (.tmp d) = a.eval (.tmp d)) →
   (∀ j, edge ops.toList i j = true → L j) → (∀ j j', edge ops.toList j j' = true → L j → L j') →
   (∀ j, L j → nth Fs j (u j) w r k) → k ≤ j → RowI B W R0 Ls k w r → (k = j ∧ ρ s = r) ∧ ∃ v, ρ x = v ∧ Str w v m r) : OpOk Tryz.prog Q ops a apps (RowI B W R0 Ls) RowM (nth Fs) i o := by
 intro ρ u L w r k h1 h2 h3 h4 h5 h6 h7 h8 h9 h10 h11 h12 K hK
 have hkj : k ≤ j := by
  have := h11 i j hi
  have h13 : ¬ j < k := fun hlt => h8 (this.2 hlt)
  omega
 obtain ⟨⟨rfl, hs⟩, v, hv, hst⟩ := h ρ u L w r k h1 h2 h6 h7 h9 hkj h12
 have hc : apps.contains i = true := by simpa using List.mem_of_getElem? hi
 rw [zfvZ hc] at hK
 unfold guarded
 rw [hg]
 obtain ⟨hb, how, h0⟩ := h12
 refine zkhZ s x ho hs hv how hst hm hn (Nat.le_trans hB hb.size) fun r' w' ho' hmv => ?_
 refine hK.out _ _ r' ⟨hmv, Nat.le_succ _, fun e => by omega⟩ ⟨belowMv hb (Nat.le_trans hB hb.size) hmv (fun g hg => (how.lt g hg).1), by rw [hLs]; exact ho', fun e => by omega⟩ ?_
 rw [hF]
 exact ⟨Nat.le_refl _, fun _ => rfl⟩
theorem OpOk.head {l : List Nat} (hi : apps = i :: l) (hg : o.guard = none) (hF : nth Fs i = AppF 0)
  (h : ∀ (ρ : Operand → Value) (u : Nat → Value) (L : Nat → Prop) (w : World) (r : Value) (k : Nat),
   (∀ d j, slotAt ops.toList j = some d → ρ (.tmp d) = u j) → (∀ d, (slots ops.toList).contains d = false → ρ (.tmp d) = a.eval (.tmp d)) → (∀ v, ρ (.const v) = v) → (∀ g, ρ (.global g) = .pointer (some ⟨g, 0, none⟩)) → (∀ f, ρ (.func f) = .func (.func f) #[] #[]) →
   (∀ j, edge ops.toList i j = true → L j) → (∀ j j', edge ops.toList j j' = true → L j → L j') → ¬ L i →
   (∀ j, L j → nth Fs j (u j) w r k) → (∀ d j, slotAt ops.toList j = some d → ¬ L j → u j = a.eval (.tmp d)) → RowI B W R0 Ls 0 w r →
   ∀ K : Value → World → Prop, Hid (∀ x w' r', RowM w r 0 w' r' 1 → RowI B W R0 Ls 1 w' r' → nth Fs i x w' r' 1 → K x w') → opWp Tryz.prog o ρ w K) : OpOk Tryz.prog Q ops a apps (RowI B W R0 Ls) RowM (nth Fs) i o := by
 intro ρ u L w r k h1 h2 h3 h4 h5 h6 h7 h8 h9 h10 h11 h12 K hK
 obtain rfl : k = 0 := by
  have := h11 i 0 (by rw [hi]; rfl)
  have h13 : ¬ 0 < k := fun hlt => h8 (this.2 hlt)
  omega
 have hc : apps.contains i = true := by rw [hi]; simp
 rw [zfvZ hc] at hK
 unfold guarded
 rw [hg]
 exact h ρ u L w r 0 h1 h2 h3 h4 h5 h6 h7 h8 h9 h10 h12 K hK
end
end Go.Proofs.YtdncljdfmdgdaaaGreatDoor
namespace Go.Proofs.YtdncljdfmdgdaaaGreatDoor
open Go.RowKit Go.Shelf
set_option linter.unusedSimpArgs false
set_option linter.unusedVariables false
def reads (ops : List Oper) (i d q : Nat) : Bool := (slotAt ops q == some d) && edge ops i q
def pathOk (ops : List Oper) : List Nat → Bool
 | x :: y :: l => edge ops x y && pathOk ops (y :: l)
 | _ => true
def behind (ops : List Oper) (i d q : Nat) (l : List Nat) : Bool := (slotAt ops q == some d) && pathOk ops (q :: l) && ((q :: l).getLast? == some i)
structure Ev (ops : List Oper) (a : Act) (Fs : List (Value → World → Value → Nat → Prop)) (i : Nat) (ρ : Operand → Value) (w : World) (r : Value) (k : Nat) : Prop where
 x : ∀ (d q : Nat) {f : Value → World → Value → Nat → Prop}, reads ops i d q = true → nth Fs q = f → f (ρ (.tmp d)) w r k
 n : ∀ d, (slots ops).contains d = false → ρ (.tmp d) = a.eval (.tmp d)
 z : ∀ (d q : Nat) (l : List Nat), behind ops i d q l = true → ρ (.tmp d) = a.eval (.tmp d)
 c : ∀ v, ρ (.const v) = v
 g : ∀ g, ρ (.global g) = .pointer (some ⟨g, 0, none⟩)
 f : ∀ f, ρ (.func f) = .func (.func f) #[] #[]
theorem Ev.e {ops : List Oper} {a : Act} {Fs : List (Value → World → Value → Nat → Prop)} {i : Nat} {ρ : Operand → Value} {w : World} {r : Value} {k : Nat} (E : Ev ops a Fs i ρ w r k) (d q : Nat) {v : Value} (h : reads ops i d q = true) (hF : nth Fs q = IsF v) : ρ (.tmp d) = v := E.x d q h hF
theorem nth_of {l Fs : List (Value → World → Value → Nat → Prop)} {j : Nat} {f : Value → World → Value → Nat → Prop} (h : l = Fs) (hf : nth l j = f) : nth Fs j = f := by rw [← h]; exact hf
theorem path_go {ops : List Oper} {L : Nat → Prop} (hC : ∀ j j', edge ops j j' = true → L j → L j') : ∀ (l : List Nat) (q i : Nat), pathOk ops (q :: l) = true → (q :: l).getLast? = some i → L q → L i
 | [], q, i, _, h, hq => by simp at h; rw [← h]; exact hq
 | y :: l, q, i, hp, h, hq => by
  rw [pathOk, Bool.and_eq_true] at hp
  exact path_go hC l y i hp.2 (by simpa using h) (hC q y hp.1 hq)
section
variable {P : Program} {ops : Array Oper} {Q : Exit → Act → World → Prop} {a : Act} {apps : List Nat} {I : Nat → World → Value → Prop} {M : World → Value → Nat → World → Value → Nat → Prop} {Fs : List (Value → World → Value → Nat → Prop)} {i : Nat} {o : Oper}
theorem Ev.mk' {ρ : Operand → Value} {u : Nat → Value} {L : Nat → Prop} {w : World} {r : Value} {k : Nat}
  (h1 : ∀ d j, slotAt ops.toList j = some d → ρ (.tmp d) = u j) (h2 : ∀ d, (slots ops.toList).contains d = false → ρ (.tmp d) = a.eval (.tmp d)) (h3 : ∀ v, ρ (.const v) = v) (h4 : ∀ g, ρ (.global g) = .pointer (some ⟨g, 0, none⟩)) (h5 : ∀ f, ρ (.func f) = .func (.func f) #[] #[])
  (h6 : ∀ j, edge ops.toList i j = true → L j) (h7 : ∀ j j', edge ops.toList j j' = true → L j → L j') (h8 : ¬ L i)
  (h9 : ∀ j, L j → nth Fs j (u j) w r k) (h10 : ∀ d j, slotAt ops.toList j = some d → ¬ L j → u j = a.eval (.tmp d)) : Ev ops.toList a Fs i ρ w r k := by
 refine ⟨fun d q f h hf => ?_, h2, fun d q l h => ?_, h3, h4, h5⟩
 ·unfold reads at h
  simp only [Bool.and_eq_true, beq_iff_eq] at h
  rw [h1 d q h.1, ← hf]
  exact h9 q (h6 q h.2)
 ·unfold behind at h
  simp only [Bool.and_eq_true, beq_iff_eq] at h
  rw [h1 d q h.1.1]
  exact h10 d q h.1.1 fun hq => h8 (path_go h7 l q i h.1.2 h.2 hq)
theorem OpOk.val {v : Value} (hi : apps.contains i = false) (hg : o.guard = none) (hF : nth Fs i = IsF v) (hM : ∀ w r k, M w r k w r k)
  (h : ∀ (ρ : Operand → Value) (w : World) (r : Value) (k : Nat), Ev ops.toList a Fs i ρ w r k → I k w r → ∀ K : Value → World → Prop, K v w → opWp P o ρ w K) : OpOk P Q ops a apps I M (nth Fs) i o :=
 OpOk.plain hi hg fun ρ u L w r k h1 h2 h3 h4 h5 h6 h7 h8 h9 h10 h11 h12 K hK => h ρ w r k (Ev.mk' h1 h2 h3 h4 h5 h6 h7 h8 h9 h10) h12 K (hK.out v w r (hM w r k) h12 (to_nth hF rfl))
theorem OpOk.mov {v : Value} {d : Nat} (hi : apps.contains i = false) (hg : o.guard = none) (hF : nth Fs i = IsF v) (hM : ∀ w r k, M w r k w r k) (ho : o.op = .move (.tmp d))
  (h : ∀ (ρ : Operand → Value) (w : World) (r : Value) (k : Nat), Ev ops.toList a Fs i ρ w r k → ρ (.tmp d) = v) : OpOk P Q ops a apps I M (nth Fs) i o :=
 OpOk.val hi hg hF hM fun ρ w r k E _ K hK => zkgZ (.tmp d) ho (h ρ w r k E) hK
end
section
variable {ops : Array Oper} {Q : Exit → Act → World → Prop} {a : Act} {apps : List Nat} {Fs : List (Value → World → Value → Nat → Prop)} {i : Nat} {o : Oper} {B : Nat} {W : World} {R0 : Value} {Ls : Nat → List Lx.Bytes}
theorem RowM.rf (w : World) (r : Value) (k : Nat) : RowM w r k w r k := RowM.refl
theorem OpOk.asg {j d q : Nat} (hi : apps.contains i = false) (hg : o.guard = none) (hF : nth Fs i = AppF j) (hq : nth Fs q = AppF j) (ho : o.op = .assign (.tmp d)) (hr : reads ops.toList i d q = true) : OpOk Tryz.prog Q ops a apps (RowI B W R0 Ls) RowM (nth Fs) i o :=
 OpOk.plain hi hg fun ρ u L w r k h1 h2 h3 h4 h5 h6 h7 h8 h9 h10 h11 h12 K hK => zidZ (.tmp d) ho rfl (hK.out _ _ _ RowM.refl h12 (to_nth hF ((Ev.mk' h1 h2 h3 h4 h5 h6 h7 h8 h9 h10).x d q hr hq)))
theorem OpOk.one {m : List Lx.Bytes} (hi : apps.contains i = false) (hg : o.guard = none) (hF : nth Fs i = StrF m) (hB : B ≤ W.heap.size)
  (h : ∀ (ρ : Operand → Value) (w : World) (r : Value) (k : Nat), Ev ops.toList a Fs i ρ w r k → RowI B W R0 Ls k w r → ∀ K : Value → World → Prop, (∀ cs : Array Value, cs.toList = strsV m → K (.slice (some ⟨w.heap.size, 0, none⟩) m.length m.length) (w.alloc (.cells cs 9))) → opWp Tryz.prog o ρ w K) : OpOk Tryz.prog Q ops a apps (RowI B W R0 Ls) RowM (nth Fs) i o :=
 OpOk.plain hi hg fun ρ u L w r k h1 h2 h3 h4 h5 h6 h7 h8 h9 h10 h11 h12 K hK => h ρ w r k (Ev.mk' h1 h2 h3 h4 h5 h6 h7 h8 h9 h10) h12 K fun cs hcs =>
  hK.out _ _ _ (RowM.of_below ((Below.refl _ _).alloc (Nat.le_refl _) _)) (RowI.below h12 hB ((Below.refl _ _).alloc (Nat.le_refl _) _)) (to_nth hF (Str.arr (m := m) (heap_alloc_new w _) hcs fun g hg => (h12.2.1.lt g hg).2))
theorem OpOk.call {m : List Lx.Bytes} {fn : Func} {c : Code} {f : FuncId} {xs : Array Operand} {ats : Array TypeId} {args : Array Value} (hi : apps.contains i = false) (hg : o.guard = none) (hF : nth Fs i = StrF m) (hB : B ≤ W.heap.size)
  (ho : o.op = .call { callee := .value (.func f), args := xs, argTypes := ats }) (hf : Tryz.prog.funcs[f]? = some fn) (hname : (fn.name == "runtime.NumGoroutine") = false) (hb : fn.body = some c)
  (ha : ∀ (ρ : Operand → Value) (w : World) (r : Value) (k : Nat), Ev ops.toList a Fs i ρ w r k → xs.map ρ = args)
  (h : ∀ w, Below B W w → Calls Tryz.prog f args w fun e w' => ∃ u, e = .returned u ∧ OwnS w' w.heap.size u m ∧ Below w.heap.size w w') : OpOk Tryz.prog Q ops a apps (RowI B W R0 Ls) RowM (nth Fs) i o :=
 OpOk.plain hi hg fun ρ u L w r k h1 h2 h3 h4 h5 h6 h7 h8 h9 h10 h11 h12 K hK => zfwZ ho hf hname hb (h5 f) (ha ρ w r k (Ev.mk' h1 h2 h3 h4 h5 h6 h7 h8 h9 h10)) ((h w h12.1).mono fun e w' ⟨v, he, ho5, hb5⟩ =>
  ⟨v, he, hK.out _ _ _ (RowM.of_below hb5) (RowI.below h12 hB hb5) (to_nth hF (Str.of_own ho5 fun g hg => (h12.2.1.lt g hg).2))⟩)
theorem OpOk.hcall {l : List Nat} {m : List Lx.Bytes} {fn : Func} {c : Code} {f : FuncId} {xs : Array Operand} {ats : Array TypeId} {args : Array Value} (hi : apps = i :: l) (hg : o.guard = none) (hF : nth Fs i = AppF 0) (hB : B ≤ W.heap.size) (hL : Ls 1 = m)
  (ho : o.op = .call { callee := .value (.func f), args := xs, argTypes := ats }) (hf : Tryz.prog.funcs[f]? = some fn) (hname : (fn.name == "runtime.NumGoroutine") = false) (hb : fn.body = some c)
  (ha : ∀ (ρ : Operand → Value) (w : World) (r : Value) (k : Nat), Ev ops.toList a Fs i ρ w r k → xs.map ρ = args)
  (h : ∀ w, Below B W w → Calls Tryz.prog f args w fun e w' => ∃ u, e = .returned u ∧ OwnS w' w.heap.size u m ∧ Below w.heap.size w w') : OpOk Tryz.prog Q ops a apps (RowI B W R0 Ls) RowM (nth Fs) i o := by
 refine OpOk.head hi hg hF fun ρ u L w r k h1 h2 h3 h4 h5 h6 h7 h8 h9 h10 h12 K hK => zfwZ ho hf hname hb (h5 f) (ha ρ w r k (Ev.mk' h1 h2 h3 h4 h5 h6 h7 h8 h9 h10)) ((h w h12.1).mono fun e w' ⟨v, he, ho5, hb5⟩ => ⟨v, he, ?_⟩)
 exact hK.out _ _ _ (RowM.first hb5 ho5) (RowI.first h12.1 hB hb5 ho5 hL) (to_nth hF AppF.first)
theorem OpOk.hone {l : List Nat} {m : List Lx.Bytes} (hi : apps = i :: l) (hg : o.guard = none) (hF : nth Fs i = AppF 0) (hB : B ≤ W.heap.size) (hL : Ls 1 = m) (hm : m.length ≤ maxLen)
  (h : ∀ (ρ : Operand → Value) (w : World) (r : Value) (k : Nat), Ev ops.toList a Fs i ρ w r k → RowI B W R0 Ls 0 w r → ∀ K : Value → World → Prop, (∀ cs : Array Value, cs.toList = strsV m → K (.slice (some ⟨w.heap.size, 0, none⟩) m.length m.length) (w.alloc (.cells cs 9))) → opWp Tryz.prog o ρ w K) : OpOk Tryz.prog Q ops a apps (RowI B W R0 Ls) RowM (nth Fs) i o := by
 refine OpOk.head hi hg hF fun ρ u L w r k h1 h2 h3 h4 h5 h6 h7 h8 h9 h10 h12 K hK => h ρ w r k (Ev.mk' h1 h2 h3 h4 h5 h6 h7 h8 h9 h10) h12 K fun cs hcs => ?_
 have ho5 : OwnS (w.alloc (.cells cs 9)) w.heap.size (.slice (some ⟨w.heap.size, 0, none⟩) m.length m.length) m := OwnS.arr (heap_alloc_new w _) hcs hm (Nat.le_refl _)
 exact hK.out _ _ _ (RowM.first ((Below.refl _ _).alloc (Nat.le_refl _) _) ho5) (RowI.first h12.1 hB ((Below.refl _ _).alloc (Nat.le_refl _) _) ho5 hL) (to_nth hF AppF.first)
theorem OpOk.app0 {m : List Lx.Bytes} {s x q q0 : Nat} {l : List Nat} (hi : apps = i :: l) (hg : o.guard = none)
  (ho : o.op = .call { callee := .builtin .append, args := #[.tmp s, .tmp x], argTypes := #[22, 22] }) (hF : nth Fs i = AppF 0) {l0 l1 : List Lx.Bytes} (h0 : Ls 0 = l0) (h1 : Ls 1 = l1) (hLs : l1 = l0 ++ m)
  (hm : 0 < m.length) (hn : l0.length + m.length ≤ 100000000) (hB : B ≤ W.heap.size) (hq0 : nth Fs q0 = IsF R0) (hr0 : reads ops.toList i s q0 = true) (hq : nth Fs q = StrF m) (hr : reads ops.toList i x q = true) : OpOk Tryz.prog Q ops a apps (RowI B W R0 Ls) RowM (nth Fs) i o := by
 refine OpOk.app (j := 0) (m := m) (.tmp s) (.tmp x) (by rw [hi]; rfl) hg ho hF (by rw [h1, h0, hLs]) hm (by rw [h0]; exact hn) hB fun ρ u L w r k hs hs0 hL hC hfc hk hI => ?_
 obtain rfl : k = 0 := by omega
 unfold reads at hr hr0
 simp only [Bool.and_eq_true, beq_iff_eq] at hr hr0
 have e1 := hfc q0 (hL q0 hr0.2)
 have e2 := hfc q (hL q hr.2)
 rw [hq0] at e1
 rw [hq] at e2
 exact ⟨⟨rfl, (hs s q0 hr0.1).trans (Eq.trans e1 (hI.2.2 rfl).symm)⟩, _, hs x q hr.1, e2⟩
theorem OpOk.appN {j : Nat} {m : List Lx.Bytes} {s x q p : Nat} (hi : apps[j + 1]? = some i) (hg : o.guard = none)
  (ho : o.op = .call { callee := .builtin .append, args := #[.tmp s, .tmp x], argTypes := #[22, 22] }) (hF : nth Fs i = AppF (j + 1)) {l0 l1 : List Lx.Bytes} (h0 : Ls (j + 1) = l0) (h1 : Ls (j + 2) = l1) (hLs : l1 = l0 ++ m)
  (hm : 0 < m.length) (hn : l0.length + m.length ≤ 100000000) (hB : B ≤ W.heap.size) (hp : nth Fs p = AppF j) (hrp : reads ops.toList i s p = true) (hq : nth Fs q = StrF m) (hr : reads ops.toList i x q = true) : OpOk Tryz.prog Q ops a apps (RowI B W R0 Ls) RowM (nth Fs) i o := by
 refine OpOk.app (j := j + 1) (m := m) (.tmp s) (.tmp x) hi hg ho hF (by rw [h1, h0, hLs]) hm (by rw [h0]; exact hn) hB fun ρ u L w r k hs hs0 hL hC hfc hk hI => ?_
 unfold reads at hr hrp
 simp only [Bool.and_eq_true, beq_iff_eq] at hr hrp
 have e1 := hfc p (hL p hrp.2)
 have e2 := hfc q (hL q hr.2)
 rw [hp] at e1
 rw [hq] at e2
 obtain rfl : k = j + 1 := Nat.le_antisymm hk e1.1
 exact ⟨⟨rfl, (hs s p hrp.1).trans (e1.2 rfl).symm⟩, _, hs x q hr.1, e2⟩
end
end Go.Proofs.YtdncljdfmdgdaaaGreatDoor
namespace Go.Proofs.YtdncljdfmdgdaaaGreatDoor
open Go.RowKit Go.Shelf
set_option linter.unusedSimpArgs false
set_option linter.unusedVariables false
attribute [local go_sem] opWp zbsZ zccZ zbtZ
def Sx.pre : Nat → List Sx.Ty → List Lx.Bytes
 | _, [] => []
 | i, t :: l => (if 0 < i then [[44]] else []) ++ Sx.typ t ++ Sx.pre (i + 1) l
theorem Sx.pre_append (l : List Sx.Ty) : ∀ (i : Nat) (m : List Sx.Ty), Sx.pre i (l ++ m) = Sx.pre i l ++ Sx.pre (i + l.length) m := by
 induction l with
 | nil => intro i m; simp [Sx.pre]
 | cons t l ih =>
  intro i m
  rw [List.cons_append, Sx.pre, Sx.pre, ih, List.length_cons, show i + 1 + l.length = i + (l.length + 1) by omega]
  simp
theorem Sx.pre_take {l : List Sx.Ty} {m : Nat} (h : m < l.length) : Sx.pre 0 (l.take (m + 1)) = Sx.pre 0 (l.take m) ++ (if 0 < m then [[44]] else []) ++ Sx.typ l[m] := by
 rw [List.take_succ_eq_append_getElem h, Sx.pre_append, Sx.pre, Sx.pre, List.append_nil, Nat.zero_add, List.length_take, Nat.min_eq_left (Nat.le_of_lt h), List.append_assoc]
theorem Sx.params_last (t : Sx.Ty) (l : List Sx.Ty) : ∀ i, Sx.params i (l ++ [t]) = Sx.pre i l ++ ([[41]] ++ Sx.typ t) := by
 induction l with
 | nil => intro i; simp [Sx.params, Sx.pre]
 | cons u l ih =>
  intro i
  rw [List.cons_append, Sx.params, Sx.pre, ih]
  simp
theorem Sx.pre_len : ∀ (l : List Sx.Ty) (i : Nat), (Sx.pre i l).length ≤ 8 * Sx.sizeL l
 | [], i => by simp [Sx.pre]
 | t :: l, i => by
  have h1 := Sx.pre_len l (i + 1)
  have h2 := Sx.typ_len t
  rw [Sx.pre, Sx.sizeL]
  simp only [List.length_append]
  split <;> simp <;> omega
theorem OwnS.one {w : World} {g B : Nat} {s : Lx.Bytes} (h : w.heap[g]? = some (.cells #[.string ⟨s.toArray⟩] 9 (0, 0))) (hb : B ≤ g) : OwnS w B (.slice (some ⟨g, 0, none⟩) 1 1) [s] :=
 ⟨rfl, .inr ⟨g, 1, _, rfl, hb, h, Nat.le_refl _, by unfold maxLen; omega, rfl, rfl⟩⟩
def TypedOk (n : Nat) : Prop := ∀ (t : Sx.Ty), Sx.size t ≤ n → (∃ d, Sx.rightT NM d t = true) → ∀ (v : Value) (W : World), IsTy W v t →
 Calls Tryz.prog 28 #[v] W fun e W' => ∃ u, e = .returned u ∧ OwnS W' W.heap.size u (Sx.typ t) ∧ Below W.heap.size W W'
set_option maxRecDepth 100000 in
set_option maxHeartbeats 16000000 in
theorem sigStep (n : Nat) (hn : n ≤ 1000000) (ih : TypedOk n) (ps : List Sx.Ty) (hne : 0 < ps.length) (hsz : Sx.sizeL ps ≤ n) (hrt : ∀ t ∈ ps, ∃ d, Sx.rightT NM d t = true) (hty1 : ∀ t ∈ ps, 0 < (Sx.typ t).length)
  (v : Value) (W : World) (hv : TyRow W v ps) :
  Calls Tryz.prog 69 #[v] W fun e W' => ∃ u, e = .returned u ∧ OwnS W' W.heap.size u ([40] :: Sx.params 0 ps) ∧ Below W.heap.size W W' := by
 obtain ⟨Ap, cp, rfl, -, -⟩ := id hv
 obtain ⟨k, hk⟩ : ∃ k, ps.length = k := ⟨_, rfl⟩
 rw [hk] at hv ⊢
 have hls := Sx.length_size ps
 have k0 : (0 : Int) ≤ (k : Int) := by omega
 have k1 : (k : Int) ≤ 1000000 := by omega
 have k2 : (1 : Int) ≤ (k : Int) := by omega
 obtain ⟨B, hB⟩ : ∃ B, W.heap.size = B := ⟨_, rfl⟩
 obtain ⟨W1, hW1⟩ : ∃ W1, W.alloc (.cells #[.string ⟨#[40]⟩] 9) = W1 := ⟨_, rfl⟩
 have hb1 : Below B W W1 := by rw [← hW1, ← hB]; exact (Below.refl _ _).alloc (Nat.le_refl _) _
 have ho1 : OwnS W1 B (.slice (some ⟨B, 0, none⟩) 1 1) [[40]] := by rw [← hW1, ← hB]; exact OwnS.one (heap_alloc_new W _) (Nat.le_refl _)
 have HIH := Lib.hid ih
 have HRT := Lib.hid hrt
 have HTP := Lib.hid hty1
 have HP := Lib.hid hv
 have HK := Lib.hid hk
 have HSZ := Lib.hid (show Sx.sizeL ps ≤ n ∧ n ≤ 1000000 from ⟨hsz, hn⟩)
 have HB := Lib.hid hB
 have HB1 := Lib.hid hb1
 have HO1 := Lib.hid ho1
 have HNE := Lib.hid hne
 clear ih hrt hty1 hv hk hsz hn hb1 ho1 hls hne
 go_enter Tryz.func69, Tryz.ntmps69
 go_wp2_with fail
 go_loopg [3, 4] k (fun i v3 v4 wr => ∃ (m : Nat) (A5 : Option Addr) (n5 c5 : Nat), i = k - m ∧ v3 = .slice A5 n5 c5 ∧ v4 = .int .i64 (m : Nat) ∧ m + 1 ≤ k ∧ OwnS wr B (.slice A5 n5 c5) ([40] :: Sx.pre 0 (ps.take m)) ∧ Below B W wr)
 case atStart => exact ⟨0, some ⟨B, 0, none⟩, 1, 1, rfl, rfl, rfl, by omega, HO1.out, HB1.out⟩
 case round =>
  obtain ⟨m, A5, n5, c5, hi, rfl, rfl, hm, ho, hb⟩ := hrel
  have HI := Lib.hid hi
  have HO := Lib.hid ho
  have HBW := Lib.hid hb
  have m0 : (0 : Int) ≤ (m : Int) := by omega
  have m1 : (m : Int) ≤ 1000000 := by omega
  have hmp : m < ps.length := by have := HK.out; omega
  have HLEN := Lib.hid (show ([40] :: Sx.pre 0 (ps.take m)).length ≤ 10000000 by
   have h1 := Sx.pre_len (ps.take m) 0
   have h2 := Sx.sizeL_take_le ps m
   have h3 := HSZ.out
   simp only [List.length_cons]
   omega)
  clear hi ho hb
  obtain ⟨g, off, An1, cn1, Ae1, ce1, Aq, cq, rfl, hty, hc5⟩ := HP.out.spot m hmp
  have hst := Sx.pre_take hmp
  have hsm := Sx.size_mem (List.getElem_mem hmp)
  have hrp := HRT.out _ (List.getElem_mem hmp)
  have htp := HTP.out _ (List.getElem_mem hmp)
  obtain ⟨p, hpe⟩ : ∃ p, ps[m]'hmp = p := ⟨_, rfl⟩
  rw [hpe] at hty hc5 hst hsm hrp htp
  have HC5 := Lib.hid hc5
  have HST := Lib.hid hst
  have HTY := Lib.hid hty
  have HPP := Lib.hid (show Sx.size p ≤ n ∧ n ≤ 1000000 ∧ 0 < (Sx.typ p).length by have := HSZ.out; exact ⟨by omega, this.2, htp⟩)
  have HRP := Lib.hid hrp
  have HPE := Lib.hid hpe
  clear hty hc5 hst hsm hrp htp
  by_cases hlt : m + 1 < k
  ·have hmi : (m : Int) + 1 < (k : Int) := by omega
   have hmk : (m : Int) < (k : Int) := by omega
   obtain ⟨hg, c0, c1, c2, c3, c4⟩ := HC5.out wr (by rw [HB.out]; exact HBW.out)
   clear hpe
   by_cases hz : 0 < m
   ·have hzi : (0 : Int) < (m : Int) := by omega
    have HST1 := Lib.hid (show ([40] :: Sx.pre 0 (ps.take m)) ++ [[44]] ++ Sx.typ p = [40] :: Sx.pre 0 (ps.take (m + 1)) by rw [HST.out, if_pos hz]; simp)
    clear hz
    obtain ⟨wa, hwa⟩ : ∃ wa, wr.alloc (.cells #[.string ⟨#[44]⟩] 9) = wa := ⟨_, rfl⟩
    have hoa : OwnS wa B (.slice A5 n5 c5) ([40] :: Sx.pre 0 (ps.take m)) := by rw [← hwa]; exact HO.out.below ((Below.refl _ _).alloc (Nat.le_refl _) _)
    have hba : Below B W wa := by rw [← hwa]; exact HBW.out.alloc (by rw [← HB.out]; exact HBW.out.size) _
    have hsa : Str wa (.slice (some ⟨wr.heap.size, 0, none⟩) 1 1) [[44]] (.slice A5 n5 c5) := by rw [← hwa]; exact Str.one (heap_alloc_new wr _) (fun q hq => (HO.out.lt q hq).2)
    have HOA := Lib.hid hoa
    have HBA := Lib.hid hba
    have HSA := Lib.hid hsa
    clear hoa hba hsa
    go_wp2_with (at_builtin; refine zlZ rfl _ _ rfl rfl rfl HOA.out HSA.out (by decide) (by have := HLEN.out; simp at this ⊢; omega) (by rw [← HB.out]; exact HBA.out.size) ?_; intro r5 w5 hO5 hmv; (have hB5 := belowMv HBA.out (by rw [← HB.out]; exact HBA.out.size) hmv (fun g hg => (HOA.out.lt g hg).1); clear c0 c1 c2 c3 c4; obtain ⟨hg, c0, c1, c2, c3, c4⟩ := HC5.out w5 (by rw [HB.out]; exact hB5); have HO5 := Lib.hid hO5; have HB5 := Lib.hid hB5; clear hO5 hB5 hmv))
    have hcl := HIH.out p HPP.out.1 HRP.out _ w5 (IsTy.below (by rw [HB.out]; exact HB5.out) _ _ HTY.out)
    refine hcl.mono ?_
    rintro e w6 ⟨u6, rfl, ho6, hb6⟩
    have hst6 := Str.of_own ho6 (fun g hg => (HO5.out.lt g hg).2)
    have hoo6 := HO5.out.below hb6
    have hbb6 := HB5.out.trans (hb6.mono (by rw [← HB.out]; exact HB5.out.size))
    have HST6 := Lib.hid hst6
    have HOO6 := Lib.hid hoo6
    have HBB6 := Lib.hid hbb6
    clear hst6 hoo6 hbb6 ho6 hb6 hcl
    go_wp2_with (at_builtin; refine zlZ rfl _ _ rfl rfl rfl HOO6.out HST6.out HPP.out.2.2 (by have := HLEN.out; have := Sx.typ_len p; have := HPP.out; simp at *; omega) (by rw [← HB.out]; exact HBB6.out.size) ?_; intro r7 w7 hO7 hmv7)
    obtain ⟨A7, c7, rfl⟩ := hO7.slice
    have hB7 := belowMv HBB6.out (by rw [← HB.out]; exact HBB6.out.size) hmv7 (fun g hg => (HOO6.out.lt g hg).1)
    go_roundg (k - (m + 1))
    case measure => have := HI.out; omega
    case rel => exact ⟨m + 1, A7, _, c7, rfl, rfl, by simp, by omega, by rw [← HST1.out]; exact hO7, hB7⟩
   ·have hzi : ¬ (0 : Int) < (m : Int) := by omega
    have HST1 := Lib.hid (show ([40] :: Sx.pre 0 (ps.take m)) ++ Sx.typ p = [40] :: Sx.pre 0 (ps.take (m + 1)) by rw [HST.out, if_neg hz]; simp)
    clear hz
    go_wp2_with fail
    have hcl := HIH.out p HPP.out.1 HRP.out _ wr (IsTy.below (by rw [HB.out]; exact HBW.out) _ _ HTY.out)
    refine hcl.mono ?_
    rintro e w6 ⟨u6, rfl, ho6, hb6⟩
    have hst6 := Str.of_own ho6 (fun g hg => (HO.out.lt g hg).2)
    have hoo6 := HO.out.below hb6
    have hbb6 := HBW.out.trans (hb6.mono (by rw [← HB.out]; exact HBW.out.size))
    have HST6 := Lib.hid hst6
    have HOO6 := Lib.hid hoo6
    have HBB6 := Lib.hid hbb6
    clear hst6 hoo6 hbb6 ho6 hb6 hcl
    go_wp2_with (at_builtin; refine zlZ rfl _ _ rfl rfl rfl HOO6.out HST6.out HPP.out.2.2 (by have := HLEN.out; have := Sx.typ_len p; have := HPP.out; simp at *; omega) (by rw [← HB.out]; exact HBB6.out.size) ?_; intro r7 w7 hO7 hmv7)
    obtain ⟨A7, c7, rfl⟩ := hO7.slice
    have hB7 := belowMv HBB6.out (by rw [← HB.out]; exact HBB6.out.size) hmv7 (fun g hg => (HOO6.out.lt g hg).1)
    go_roundg (k - (m + 1))
    case measure => have := HI.out; omega
    case rel => exact ⟨m + 1, A7, _, c7, rfl, rfl, by simp, by omega, by rw [← HST1.out]; exact hO7, hB7⟩
  ·obtain rfl : k = m + 1 := by omega
   have hmi : ¬ (m : Int) + 1 < ((m + 1 : Nat) : Int) := by omega
   have hsub : ((m + 1 : Nat) : Int) - 1 = (m : Int) := by omega
   have hwr : IntKind.i64.wrap (((m + 1 : Nat) : Int) - 1) = (m : Int) := by rw [hsub, IntKind.wrap_i64]; omega
   have hmk : (m : Int) < ((m + 1 : Nat) : Int) := by omega
   have HFIN := Lib.hid (show ([40] :: Sx.pre 0 (ps.take m)) ++ [[41]] ++ Sx.typ p = [40] :: Sx.params 0 ps by
    have h1 : ps = ps.take m ++ [p] := by
     conv => lhs; rw [← List.take_append_drop m ps]
     rw [List.drop_eq_getElem_cons hmp, hpe, List.drop_of_length_le (by have := HK.out; omega)]
    conv => rhs; rw [h1]
    rw [Sx.params_last]
    simp)
   clear hpe
   go_wp2_with fail
   clear hsub hmi hwr hmk
   have hwr : IntKind.i64.wrap (m : Int) = (m : Int) := by rw [IntKind.wrap_i64]; omega
   have hmk : (m : Int) < (m : Int) + 1 := by omega
   have hBle : B ≤ W.heap.size := by rw [HB.out]; exact Nat.le_refl _
   have hB0 : Below B W wr.drew := HBW.out.drew
   have hO0 : OwnS wr.drew B (.slice A5 n5 c5) ([40] :: Sx.pre 0 (ps.take m)) := HO.out
   obtain ⟨Fs, hFs⟩ : ∃ F : List (Value → World → Value → Nat → Prop), [IsF (.slice A5 n5 c5), StrF [[41]], AppF 0, IsF (.slice (some ⟨g, off, none⟩) (m + 1) cp), IsF (.slice (some ⟨g, off, none⟩) (m + 1) cp), IsF (.int .i64 ((m : Int) + 1)), IsF (.int .i64 (m : Int)), IsF (.pointer (some ⟨g, off + m * 5, none⟩)), IsF (.agg #[.int .i64 p.kind, .string ⟨p.name.toArray⟩, .slice An1 p.names.length cn1, .slice Ae1 p.embeds.length ce1, .slice Aq p.parts.length cq]), StrF (Sx.typ p), AppF 1, AppF 1] = F := ⟨_, rfl⟩
   have F0 : nth Fs 0 = IsF _ := nth_of hFs rfl
   have F1 : nth Fs 1 = StrF _ := nth_of hFs rfl
   have F2 : nth Fs 2 = AppF 0 := nth_of hFs rfl
   have F3 : nth Fs 3 = IsF _ := nth_of hFs rfl
   have F4 : nth Fs 4 = IsF _ := nth_of hFs rfl
   have F5 : nth Fs 5 = IsF _ := nth_of hFs rfl
   have F6 : nth Fs 6 = IsF _ := nth_of hFs rfl
   have F7 : nth Fs 7 = IsF _ := nth_of hFs rfl
   have F8 : nth Fs 8 = IsF _ := nth_of hFs rfl
   have F9 : nth Fs 9 = StrF _ := nth_of hFs rfl
   have F10 : nth Fs 10 = AppF 1 := nth_of hFs rfl
   have F11 : nth Fs 11 = AppF 1 := nth_of hFs rfl
   have hstay : AllStay RowM Fs := by rw [← hFs]; exact .cons IsF.stays (.cons StrF.stays (.cons AppF.stays (.cons IsF.stays (.cons IsF.stays (.cons IsF.stays (.cons IsF.stays (.cons IsF.stays (.cons IsF.stays (.cons StrF.stays (.cons AppF.stays (.cons AppF.stays (.nil))))))))))))
   obtain ⟨Lf, hLf⟩ : ∃ f : Nat → List Lx.Bytes, (fun k => ([([40] :: Sx.pre 0 (ps.take m)), ([40] :: Sx.pre 0 (ps.take m)) ++ [[41]], ([40] :: Sx.pre 0 (ps.take m)) ++ [[41]] ++ (Sx.typ p)] : List (List Lx.Bytes)).getD k []) = f := ⟨_, rfl⟩
   have L0 : Lf 0 = ([40] :: Sx.pre 0 (ps.take m)) := by rw [← hLf]; rfl
   have L1 : Lf 1 = ([40] :: Sx.pre 0 (ps.take m)) ++ [[41]] := by rw [← hLf]; rfl
   have L2 : Lf 2 = ([40] :: Sx.pre 0 (ps.take m)) ++ [[41]] ++ (Sx.typ p) := by rw [← hLf]; rfl
   clear hFs hLf
   refine zbaZ (by kernel_rfl) [2, 10] (RowI B W (.slice A5 n5 c5) Lf) RowM Fs (.slice A5 n5 c5) (by kernel_rfl) (by kernel_rfl) (by kernel_rfl) (by kernel_rfl) (by kernel_rfl) hstay (n := 12) (by kernel_rfl) ⟨hB0, by rw [L0]; exact hO0, fun _ => rfl⟩ ?_ ?_
   ·refine .cons ?_ (.cons ?_ (.cons ?_ (.cons ?_ (.cons ?_ (.cons ?_ (.cons ?_ (.cons ?_ (.cons ?_ (.cons ?_ (.cons ?_ (.cons ?_ (.nil))))))))))))
    ·exact OpOk.mov rfl rfl F0 RowM.rf rfl fun ρ w r k E => E.n 3 (by kernel_rfl)
    ·refine OpOk.one rfl rfl F1 hBle fun ρ w r k E hI K hK => ?_
     have c := E.c
     go_simp
     exact hK _ rfl
    ·exact OpOk.app0 (s := 25) (x := 26) (q0 := 0) (q := 1) rfl rfl rfl F2 L0 L1 rfl (by simp) (by (have := HLEN.out; have := Sx.typ_len p; have := HPP.out; simp only [List.length_append, List.length_cons, List.length_nil] at *; omega)) hBle F0 (by kernel_rfl) F1 (by kernel_rfl)
    ·exact OpOk.mov rfl rfl F3 RowM.rf rfl fun ρ w r k E => E.n 0 (by kernel_rfl)
    ·exact OpOk.mov rfl rfl F4 RowM.rf rfl fun ρ w r k E => E.n 0 (by kernel_rfl)
    ·refine OpOk.val rfl rfl F5 RowM.rf fun ρ w r k E hI K hK => ?_
     have e29 := E.e 29 4 (by kernel_rfl) F4
     go_simp
     exact hK
    ·refine OpOk.val rfl rfl F6 RowM.rf fun ρ w r k E hI K hK => ?_
     have e30 := E.e 30 5 (by kernel_rfl) F5
     have c := E.c
     go_simp
     exact hK
    ·refine OpOk.val rfl rfl F7 RowM.rf fun ρ w r k E hI K hK => ?_
     have e28 := E.e 28 3 (by kernel_rfl) F3
     have e31 := E.e 31 6 (by kernel_rfl) F6
     have hcc := HC5.out w (by rw [HB.out]; exact hI.1)
     have hg := hcc.1
     have c0 := hcc.2.1
     have c1 := hcc.2.2.1
     have c2 := hcc.2.2.2.1
     have c3 := hcc.2.2.2.2.1
     have c4 := hcc.2.2.2.2.2
     clear hcc
     go_simp
     exact hK
    ·refine OpOk.val rfl rfl F8 RowM.rf fun ρ w r k E hI K hK => ?_
     have e32 := E.e 32 7 (by kernel_rfl) F7
     have hcc := HC5.out w (by rw [HB.out]; exact hI.1)
     have hg := hcc.1
     have c0 := hcc.2.1
     have c1 := hcc.2.2.1
     have c2 := hcc.2.2.2.1
     have c3 := hcc.2.2.2.2.1
     have c4 := hcc.2.2.2.2.2
     clear hcc
     go_simp
     exact hK
    ·exact OpOk.call (args := #[.agg #[.int .i64 p.kind, .string ⟨p.name.toArray⟩, .slice An1 p.names.length cn1, .slice Ae1 p.embeds.length ce1, .slice Aq p.parts.length cq]]) rfl rfl F9 hBle rfl Tryz.func28 (by kernel_rfl) rfl (fun ρ w r k E => by simp only [List.map_toArray, List.map_cons, List.map_nil, E.e 33 8 (by kernel_rfl) F8]) fun w hb => HIH.out p HPP.out.1 HRP.out _ w (IsTy.below (by rw [HB.out]; exact hb) _ _ HTY.out)
    ·exact OpOk.appN (j := 0) (s := 27) (x := 34) (p := 2) (q := 9) rfl rfl rfl F10 L1 L2 rfl (by exact HPP.out.2.2) (by (have := HLEN.out; have := Sx.typ_len p; have := HPP.out; simp only [List.length_append, List.length_cons, List.length_nil] at *; omega)) hBle F2 (by kernel_rfl) F9 (by kernel_rfl)
    ·exact OpOk.asg rfl rfl F11 F10 rfl (by kernel_rfl)
   ·intro uq wq rq hI hF
    have f11 : uq 11 = rq := ((of_nth F11 (hF 11 (by decide))).2 rfl).symm
    have hBz := hI.1
    have hOz := hI.2.1
    rw [show ([2, 10] : List Nat).length = 2 from rfl, L2] at hOz
    simp only [List.toList_toArray, fillAct, Act.put, List.setIfInBounds_toArray, List.set_cons_zero, List.set_cons_succ, f11]
    clear hI hF F0 F1 F2 F3 F4 F5 F6 F7 F8 F9 F10 F11 hstay L0 L1 L2
    obtain ⟨A9, c9, rfl⟩ := hOz.slice
    have HOZ := Lib.hid hOz
    have HBZ := Lib.hid hBz
    clear hOz hBz
    go_wp2_with fail
    go_ret
    exact ⟨_, rfl, by rw [HB.out, ← HFIN.out]; exact HOZ.out, by rw [HB.out]; exact HBZ.out⟩
end Go.Proofs.YtdncljdfmdgdaaaGreatDoor
namespace Go.Proofs.YtdncljdfmdgdaaaGreatDoor
open Go.RowKit Go.Shelf
set_option linter.unusedSimpArgs false
set_option linter.unusedVariables false
attribute [local go_sem] opWp zbsZ zccZ zbtZ
def TypedIs (t : Sx.Ty) (v : Value) (W : World) : Prop := Calls Tryz.prog 28 #[v] W fun e W' => ∃ u, e = .returned u ∧ OwnS W' W.heap.size u (Sx.typ t) ∧ Below W.heap.size W W'
theorem Sx.typ_pos {N : Sx.Names} {d : Nat} {t : Sx.Ty} (h : Sx.rightT N d t = true) : 0 < (Sx.typ t).length := by
 obtain ⟨d', rfl, -, hsh⟩ := Sx.right_parts h
 rw [Sx.typ_eq]
 rcases Sx.shape_kind hsh with hk | hk | hk | hk | hk | hk | hk | hk <;> rw [hk] <;> simp
theorem IsTy.row {W : World} {k : Int} {n : Lx.Bytes} {v1 v2 : Value} {A : Option Addr} {m c : Nat} {t : Sx.Ty} (h : IsTy W (.agg #[.int .i64 k, .string ⟨n.toArray⟩, v1, v2, .slice A m c]) t) : TyRow W (.slice A m c) t.parts := by
 obtain ⟨An, cn, Ae, ce, Ap, cp, he, -, -, hp⟩ := h.agg
 injection he with he
 simp only [Array.mk.injEq, List.cons.injEq, and_true] at he
 obtain ⟨-, -, -, -, he⟩ := he
 rw [he]
 exact hp
set_option maxRecDepth 100000 in
set_option maxHeartbeats 16000000 in
theorem typed1 (n : Nat) (hn : n + 1 ≤ 1000000) (ih : TypedOk n) (t : Sx.Ty) (hsz0 : Sx.size t ≤ n + 1) (hr0 : ∃ d, Sx.rightT NM d t = true) (hkd : t.kind = 1) (v : Value) (W : World) (ht : IsTy W v t) : TypedIs t v W := by
 unfold TypedIs
 obtain ⟨An, cn, Ae, ce, Ap, cp, rfl, hnm, hem, hp⟩ := ht.agg
 obtain ⟨d, hr⟩ := hr0
 obtain ⟨d', rfl, hr', hsh⟩ := Sx.right_parts hr
 rw [hkd] at hsh ht ⊢
 have hsz := Sx.size_parts t
 have hsl : Sx.sizeL t.parts ≤ n := by omega
 have hlp := Sx.length_size t.parts
 have HT := Lib.hid (show Sx.typ t = [[105, 110, 116]] by rw [Sx.typ_eq, hkd]; simp)
 have HIH := Lib.hid ih
 have HR := Lib.hid hr'
 have HSL := Lib.hid (show Sx.sizeL t.parts ≤ n ∧ n + 1 ≤ 1000000 from ⟨hsl, hn⟩)
 obtain ⟨L, hL⟩ : ∃ L, W.heap.size = L := ⟨_, rfl⟩
 obtain ⟨w2, hw2⟩ : ∃ w2, W.alloc (.cells #[.int .i64 1, .string ⟨t.name.toArray⟩, .slice An t.names.length cn, .slice Ae t.embeds.length ce, .slice Ap t.parts.length cp] 26) = w2 := ⟨_, rfl⟩
 have hbox : w2.heap[L]? = some (.cells #[.int .i64 1, .string ⟨t.name.toArray⟩, .slice An t.names.length cn, .slice Ae t.embeds.length ce, .slice Ap t.parts.length cp] 26 (0, 0)) := by rw [← hw2, ← hL]; exact heap_alloc_new W _
 have hb2 : Below L W w2 := by rw [← hw2, ← hL]; exact (Below.refl _ _).alloc (Nat.le_refl _) _
 obtain ⟨B, hB⟩ : ∃ B, w2.heap.size = B := ⟨_, rfl⟩
 have hLB : L < B := by rw [← hB]; exact zaZ hbox
 have HBB := Lib.hid (show B ≤ w2.heap.size by rw [hB]; exact Nat.le_refl _)
 have HWX := Lib.hid (fun X (h : Below B w2 X) => (show Below W.heap.size W X by rw [hL]; exact hb2.trans (h.mono (Nat.le_of_lt hLB))))
 have HWB := Lib.hid (show W.heap.size ≤ B by rw [hL]; exact Nat.le_of_lt hLB)
 have HBX := Lib.hid (fun X (h : Below B w2 X) => (show X.heap[L]? = some (.cells #[.int .i64 1, .string ⟨t.name.toArray⟩, .slice An t.names.length cn, .slice Ae t.embeds.length ce, .slice Ap t.parts.length cp] 26 (0, 0)) from (h.block L hLB).trans hbox))
 have HR2 := Lib.hid (show Below B w2 w2 from Below.refl _ _)
 have HO1 := Lib.hid (fun (s : Lx.Bytes) => (show OwnS (w2.alloc (.cells #[.string ⟨s.toArray⟩] 9)) B (.slice (some ⟨B, 0, none⟩) 1 1) [s] by have := OwnS.one (B := B) (s := s) (heap_alloc_new w2 (.cells #[.string ⟨s.toArray⟩] 9)) HBB.out; rw [hB] at this; exact this))
 have HP := Lib.hid hp
 have HNM := Lib.hid hnm
 have HEM := Lib.hid hem
 obtain ⟨x0, x1, x2, x3, x4⟩ := zcZ hbox
 have hl2 := zaZ hbox
 clear ih hr hr' ht hp hnm hem hsz hsl hbox hb2 hsh hkd hsz0 hn
 go_enter Tryz.func28, Tryz.ntmps28
 go_wp2_with fail
 go_ret
 exact ⟨.slice (some ⟨B, 0, none⟩) 1 1, rfl, by rw [HT.out]; exact (HO1.out [105, 110, 116]).base_le HWB.out, HWX.out _ (HR2.out.alloc HBB.out _)⟩
set_option maxRecDepth 100000 in
set_option maxHeartbeats 16000000 in
theorem typed2 (n : Nat) (hn : n + 1 ≤ 1000000) (ih : TypedOk n) (t : Sx.Ty) (hsz0 : Sx.size t ≤ n + 1) (hr0 : ∃ d, Sx.rightT NM d t = true) (hkd : t.kind = 2) (v : Value) (W : World) (ht : IsTy W v t) : TypedIs t v W := by
 unfold TypedIs
 obtain ⟨An, cn, Ae, ce, Ap, cp, rfl, hnm, hem, hp⟩ := ht.agg
 obtain ⟨d, hr⟩ := hr0
 obtain ⟨d', rfl, hr', hsh⟩ := Sx.right_parts hr
 rw [hkd] at hsh ht ⊢
 have hsz := Sx.size_parts t
 have hsl : Sx.sizeL t.parts ≤ n := by omega
 have hlp := Sx.length_size t.parts
 have HT := Lib.hid (show Sx.typ t = [[98, 111, 111, 108]] by rw [Sx.typ_eq, hkd]; simp)
 have HIH := Lib.hid ih
 have HR := Lib.hid hr'
 have HSL := Lib.hid (show Sx.sizeL t.parts ≤ n ∧ n + 1 ≤ 1000000 from ⟨hsl, hn⟩)
 obtain ⟨L, hL⟩ : ∃ L, W.heap.size = L := ⟨_, rfl⟩
 obtain ⟨w2, hw2⟩ : ∃ w2, W.alloc (.cells #[.int .i64 2, .string ⟨t.name.toArray⟩, .slice An t.names.length cn, .slice Ae t.embeds.length ce, .slice Ap t.parts.length cp] 26) = w2 := ⟨_, rfl⟩
 have hbox : w2.heap[L]? = some (.cells #[.int .i64 2, .string ⟨t.name.toArray⟩, .slice An t.names.length cn, .slice Ae t.embeds.length ce, .slice Ap t.parts.length cp] 26 (0, 0)) := by rw [← hw2, ← hL]; exact heap_alloc_new W _
 have hb2 : Below L W w2 := by rw [← hw2, ← hL]; exact (Below.refl _ _).alloc (Nat.le_refl _) _
 obtain ⟨B, hB⟩ : ∃ B, w2.heap.size = B := ⟨_, rfl⟩
 have hLB : L < B := by rw [← hB]; exact zaZ hbox
 have HBB := Lib.hid (show B ≤ w2.heap.size by rw [hB]; exact Nat.le_refl _)
 have HWX := Lib.hid (fun X (h : Below B w2 X) => (show Below W.heap.size W X by rw [hL]; exact hb2.trans (h.mono (Nat.le_of_lt hLB))))
 have HWB := Lib.hid (show W.heap.size ≤ B by rw [hL]; exact Nat.le_of_lt hLB)
 have HBX := Lib.hid (fun X (h : Below B w2 X) => (show X.heap[L]? = some (.cells #[.int .i64 2, .string ⟨t.name.toArray⟩, .slice An t.names.length cn, .slice Ae t.embeds.length ce, .slice Ap t.parts.length cp] 26 (0, 0)) from (h.block L hLB).trans hbox))
 have HR2 := Lib.hid (show Below B w2 w2 from Below.refl _ _)
 have HO1 := Lib.hid (fun (s : Lx.Bytes) => (show OwnS (w2.alloc (.cells #[.string ⟨s.toArray⟩] 9)) B (.slice (some ⟨B, 0, none⟩) 1 1) [s] by have := OwnS.one (B := B) (s := s) (heap_alloc_new w2 (.cells #[.string ⟨s.toArray⟩] 9)) HBB.out; rw [hB] at this; exact this))
 have HP := Lib.hid hp
 have HNM := Lib.hid hnm
 have HEM := Lib.hid hem
 obtain ⟨x0, x1, x2, x3, x4⟩ := zcZ hbox
 have hl2 := zaZ hbox
 clear ih hr hr' ht hp hnm hem hsz hsl hbox hb2 hsh hkd hsz0 hn
 go_enter Tryz.func28, Tryz.ntmps28
 go_wp2_with fail
 go_ret
 exact ⟨.slice (some ⟨B, 0, none⟩) 1 1, rfl, by rw [HT.out]; exact (HO1.out [98, 111, 111, 108]).base_le HWB.out, HWX.out _ (HR2.out.alloc HBB.out _)⟩
set_option maxRecDepth 100000 in
set_option maxHeartbeats 16000000 in
theorem typed3 (n : Nat) (hn : n + 1 ≤ 1000000) (ih : TypedOk n) (t : Sx.Ty) (hsz0 : Sx.size t ≤ n + 1) (hr0 : ∃ d, Sx.rightT NM d t = true) (hkd : t.kind = 3) (v : Value) (W : World) (ht : IsTy W v t) : TypedIs t v W := by
 unfold TypedIs
 obtain ⟨An, cn, Ae, ce, Ap, cp, rfl, hnm, hem, hp⟩ := ht.agg
 obtain ⟨d, hr⟩ := hr0
 obtain ⟨d', rfl, hr', hsh⟩ := Sx.right_parts hr
 rw [hkd] at hsh ht ⊢
 have hsz := Sx.size_parts t
 have hsl : Sx.sizeL t.parts ≤ n := by omega
 have hlp := Sx.length_size t.parts
 have HT := Lib.hid (show Sx.typ t = [[116, 101, 120, 116]] by rw [Sx.typ_eq, hkd]; simp)
 have HIH := Lib.hid ih
 have HR := Lib.hid hr'
 have HSL := Lib.hid (show Sx.sizeL t.parts ≤ n ∧ n + 1 ≤ 1000000 from ⟨hsl, hn⟩)
 obtain ⟨L, hL⟩ : ∃ L, W.heap.size = L := ⟨_, rfl⟩
 obtain ⟨w2, hw2⟩ : ∃ w2, W.alloc (.cells #[.int .i64 3, .string ⟨t.name.toArray⟩, .slice An t.names.length cn, .slice Ae t.embeds.length ce, .slice Ap t.parts.length cp] 26) = w2 := ⟨_, rfl⟩
 have hbox : w2.heap[L]? = some (.cells #[.int .i64 3, .string ⟨t.name.toArray⟩, .slice An t.names.length cn, .slice Ae t.embeds.length ce, .slice Ap t.parts.length cp] 26 (0, 0)) := by rw [← hw2, ← hL]; exact heap_alloc_new W _
 have hb2 : Below L W w2 := by rw [← hw2, ← hL]; exact (Below.refl _ _).alloc (Nat.le_refl _) _
 obtain ⟨B, hB⟩ : ∃ B, w2.heap.size = B := ⟨_, rfl⟩
 have hLB : L < B := by rw [← hB]; exact zaZ hbox
 have HBB := Lib.hid (show B ≤ w2.heap.size by rw [hB]; exact Nat.le_refl _)
 have HWX := Lib.hid (fun X (h : Below B w2 X) => (show Below W.heap.size W X by rw [hL]; exact hb2.trans (h.mono (Nat.le_of_lt hLB))))
 have HWB := Lib.hid (show W.heap.size ≤ B by rw [hL]; exact Nat.le_of_lt hLB)
 have HBX := Lib.hid (fun X (h : Below B w2 X) => (show X.heap[L]? = some (.cells #[.int .i64 3, .string ⟨t.name.toArray⟩, .slice An t.names.length cn, .slice Ae t.embeds.length ce, .slice Ap t.parts.length cp] 26 (0, 0)) from (h.block L hLB).trans hbox))
 have HR2 := Lib.hid (show Below B w2 w2 from Below.refl _ _)
 have HO1 := Lib.hid (fun (s : Lx.Bytes) => (show OwnS (w2.alloc (.cells #[.string ⟨s.toArray⟩] 9)) B (.slice (some ⟨B, 0, none⟩) 1 1) [s] by have := OwnS.one (B := B) (s := s) (heap_alloc_new w2 (.cells #[.string ⟨s.toArray⟩] 9)) HBB.out; rw [hB] at this; exact this))
 have HP := Lib.hid hp
 have HNM := Lib.hid hnm
 have HEM := Lib.hid hem
 obtain ⟨x0, x1, x2, x3, x4⟩ := zcZ hbox
 have hl2 := zaZ hbox
 clear ih hr hr' ht hp hnm hem hsz hsl hbox hb2 hsh hkd hsz0 hn
 go_enter Tryz.func28, Tryz.ntmps28
 go_wp2_with fail
 go_ret
 exact ⟨.slice (some ⟨B, 0, none⟩) 1 1, rfl, by rw [HT.out]; exact (HO1.out [116, 101, 120, 116]).base_le HWB.out, HWX.out _ (HR2.out.alloc HBB.out _)⟩
set_option maxRecDepth 100000 in
set_option maxHeartbeats 16000000 in
theorem typed4 (n : Nat) (hn : n + 1 ≤ 1000000) (ih : TypedOk n) (t : Sx.Ty) (hsz0 : Sx.size t ≤ n + 1) (hr0 : ∃ d, Sx.rightT NM d t = true) (hkd : t.kind = 4) (v : Value) (W : World) (ht : IsTy W v t) : TypedIs t v W := by
 unfold TypedIs
 obtain ⟨An, cn, Ae, ce, Ap, cp, rfl, hnm, hem, hp⟩ := ht.agg
 obtain ⟨d, hr⟩ := hr0
 obtain ⟨d', rfl, hr', hsh⟩ := Sx.right_parts hr
 rw [hkd] at hsh ht ⊢
 have hsz := Sx.size_parts t
 have hsl : Sx.sizeL t.parts ≤ n := by omega
 have hlp := Sx.length_size t.parts
 have HT := Lib.hid (show Sx.typ t = [t.name] by rw [Sx.typ_eq, hkd]; simp)
 have HIH := Lib.hid ih
 have HR := Lib.hid hr'
 have HSL := Lib.hid (show Sx.sizeL t.parts ≤ n ∧ n + 1 ≤ 1000000 from ⟨hsl, hn⟩)
 obtain ⟨L, hL⟩ : ∃ L, W.heap.size = L := ⟨_, rfl⟩
 obtain ⟨w2, hw2⟩ : ∃ w2, W.alloc (.cells #[.int .i64 4, .string ⟨t.name.toArray⟩, .slice An t.names.length cn, .slice Ae t.embeds.length ce, .slice Ap t.parts.length cp] 26) = w2 := ⟨_, rfl⟩
 have hbox : w2.heap[L]? = some (.cells #[.int .i64 4, .string ⟨t.name.toArray⟩, .slice An t.names.length cn, .slice Ae t.embeds.length ce, .slice Ap t.parts.length cp] 26 (0, 0)) := by rw [← hw2, ← hL]; exact heap_alloc_new W _
 have hb2 : Below L W w2 := by rw [← hw2, ← hL]; exact (Below.refl _ _).alloc (Nat.le_refl _) _
 obtain ⟨B, hB⟩ : ∃ B, w2.heap.size = B := ⟨_, rfl⟩
 have hLB : L < B := by rw [← hB]; exact zaZ hbox
 have HBB := Lib.hid (show B ≤ w2.heap.size by rw [hB]; exact Nat.le_refl _)
 have HWX := Lib.hid (fun X (h : Below B w2 X) => (show Below W.heap.size W X by rw [hL]; exact hb2.trans (h.mono (Nat.le_of_lt hLB))))
 have HWB := Lib.hid (show W.heap.size ≤ B by rw [hL]; exact Nat.le_of_lt hLB)
 have HBX := Lib.hid (fun X (h : Below B w2 X) => (show X.heap[L]? = some (.cells #[.int .i64 4, .string ⟨t.name.toArray⟩, .slice An t.names.length cn, .slice Ae t.embeds.length ce, .slice Ap t.parts.length cp] 26 (0, 0)) from (h.block L hLB).trans hbox))
 have HR2 := Lib.hid (show Below B w2 w2 from Below.refl _ _)
 have HO1 := Lib.hid (fun (s : Lx.Bytes) => (show OwnS (w2.alloc (.cells #[.string ⟨s.toArray⟩] 9)) B (.slice (some ⟨B, 0, none⟩) 1 1) [s] by have := OwnS.one (B := B) (s := s) (heap_alloc_new w2 (.cells #[.string ⟨s.toArray⟩] 9)) HBB.out; rw [hB] at this; exact this))
 have HP := Lib.hid hp
 have HNM := Lib.hid hnm
 have HEM := Lib.hid hem
 obtain ⟨x0, x1, x2, x3, x4⟩ := zcZ hbox
 have hl2 := zaZ hbox
 clear ih hr hr' ht hp hnm hem hsz hsl hbox hb2 hsh hkd hsz0 hn
 go_enter Tryz.func28, Tryz.ntmps28
 go_wp2_with fail
 go_ret
 exact ⟨.slice (some ⟨B, 0, none⟩) 1 1, rfl, by rw [HT.out]; exact (HO1.out t.name).base_le HWB.out, HWX.out _ (HR2.out.alloc HBB.out _)⟩
set_option maxRecDepth 100000 in
set_option maxHeartbeats 16000000 in
theorem typed5 (n : Nat) (hn : n + 1 ≤ 1000000) (ih : TypedOk n) (t : Sx.Ty) (hsz0 : Sx.size t ≤ n + 1) (hr0 : ∃ d, Sx.rightT NM d t = true) (hkd : t.kind = 5) (v : Value) (W : World) (ht : IsTy W v t) : TypedIs t v W := by
 unfold TypedIs
 obtain ⟨An, cn, Ae, ce, Ap, cp, rfl, hnm, hem, hp⟩ := ht.agg
 obtain ⟨d, hr⟩ := hr0
 obtain ⟨d', rfl, hr', hsh⟩ := Sx.right_parts hr
 rw [hkd] at hsh ht ⊢
 have hsz := Sx.size_parts t
 have hsl : Sx.sizeL t.parts ≤ n := by omega
 have hlp := Sx.length_size t.parts
 have hl1 : 0 < t.parts.length := by simp [Sx.shape] at hsh; omega
 obtain ⟨g, off, An1, cn1, Ae1, ce1, Aq, cq, rfl, hty, hc5⟩ := hp.spot 0 hl1
 obtain ⟨p, hpe⟩ : ∃ p, t.parts[0]'hl1 = p := ⟨_, rfl⟩
 have hmem : p ∈ t.parts := by rw [← hpe]; exact List.getElem_mem hl1
 rw [hpe] at hty hc5
 have HTY := Lib.hid hty
 have HC5 := Lib.hid hc5
 have HPP := Lib.hid (show Sx.size p ≤ n ∧ (∃ d, Sx.rightT NM d p = true) ∧ 0 < (Sx.typ p).length ∧ n + 1 ≤ 1000000 from ⟨by have := Sx.size_mem hmem; omega, ⟨d', hr' p hmem⟩, Sx.typ_pos (hr' p hmem), hn⟩)
 have hl1i : (0 : Int) < (t.parts.length : Int) := by omega
 have HT := Lib.hid (show Sx.typ t = [42] :: Sx.typ p by
  rw [Sx.typ_eq, hkd, Sx.typL_head hl1, hpe]
  simp)
 have HIH := Lib.hid ih
 have HR := Lib.hid hr'
 have HSL := Lib.hid (show Sx.sizeL t.parts ≤ n ∧ n + 1 ≤ 1000000 from ⟨hsl, hn⟩)
 obtain ⟨L, hL⟩ : ∃ L, W.heap.size = L := ⟨_, rfl⟩
 obtain ⟨w2, hw2⟩ : ∃ w2, W.alloc (.cells #[.int .i64 5, .string ⟨t.name.toArray⟩, .slice An t.names.length cn, .slice Ae t.embeds.length ce, .slice (some ⟨g, off, none⟩) t.parts.length cp] 26) = w2 := ⟨_, rfl⟩
 have hbox : w2.heap[L]? = some (.cells #[.int .i64 5, .string ⟨t.name.toArray⟩, .slice An t.names.length cn, .slice Ae t.embeds.length ce, .slice (some ⟨g, off, none⟩) t.parts.length cp] 26 (0, 0)) := by rw [← hw2, ← hL]; exact heap_alloc_new W _
 have hb2 : Below L W w2 := by rw [← hw2, ← hL]; exact (Below.refl _ _).alloc (Nat.le_refl _) _
 obtain ⟨B, hB⟩ : ∃ B, w2.heap.size = B := ⟨_, rfl⟩
 have hLB : L < B := by rw [← hB]; exact zaZ hbox
 have HBB := Lib.hid (show B ≤ w2.heap.size by rw [hB]; exact Nat.le_refl _)
 have HWX := Lib.hid (fun X (h : Below B w2 X) => (show Below W.heap.size W X by rw [hL]; exact hb2.trans (h.mono (Nat.le_of_lt hLB))))
 have HWB := Lib.hid (show W.heap.size ≤ B by rw [hL]; exact Nat.le_of_lt hLB)
 have HBX := Lib.hid (fun X (h : Below B w2 X) => (show X.heap[L]? = some (.cells #[.int .i64 5, .string ⟨t.name.toArray⟩, .slice An t.names.length cn, .slice Ae t.embeds.length ce, .slice (some ⟨g, off, none⟩) t.parts.length cp] 26 (0, 0)) from (h.block L hLB).trans hbox))
 have HR2 := Lib.hid (show Below B w2 w2 from Below.refl _ _)
 have HO1 := Lib.hid (fun (s : Lx.Bytes) => (show OwnS (w2.alloc (.cells #[.string ⟨s.toArray⟩] 9)) B (.slice (some ⟨B, 0, none⟩) 1 1) [s] by have := OwnS.one (B := B) (s := s) (heap_alloc_new w2 (.cells #[.string ⟨s.toArray⟩] 9)) HBB.out; rw [hB] at this; exact this))
 have HP := Lib.hid hp
 have HNM := Lib.hid hnm
 have HEM := Lib.hid hem
 obtain ⟨x0, x1, x2, x3, x4⟩ := zcZ hbox
 have hl2 := zaZ hbox
 clear ih hr hr' ht hp hnm hem hsz hsl hbox hb2 hsh hkd hsz0 hn hty hc5 hpe hmem
 go_enter Tryz.func28, Tryz.ntmps28
 obtain ⟨w3, hw3⟩ : ∃ w3, w2.alloc (.cells #[.string ⟨#[42]⟩] 9) = w3 := ⟨_, rfl⟩
 have hb3 : Below B w2 w3 := by rw [← hw3]; exact HR2.out.alloc HBB.out _
 have ho3 : OwnS w3 B (.slice (some ⟨B, 0, none⟩) 1 1) [[42]] := by rw [← hw3]; have := OwnS.one (B := B) (heap_alloc_new w2 (.cells #[.string ⟨#[42]⟩] 9)) HBB.out; rw [hB] at this; exact this
 have hbox3 := HBX.out w3 hb3
 obtain ⟨y0, y1, y2, y3, y4⟩ := zcZ hbox3
 have hl3 := zaZ hbox3
 have HO3 := Lib.hid ho3
 have HB3 := Lib.hid hb3
 obtain ⟨hg5, d0, d1, d2, d3, d4⟩ := HC5.out w3 (HWX.out _ hb3)
 rw [Nat.zero_mul, Nat.add_zero] at d0 d1 d2 d3 d4
 have HB3S := Lib.hid (show B ≤ w3.heap.size from Nat.le_trans HBB.out hb3.size)
 clear hb3 ho3 hbox3
 go_wp2_with (first
  | (go_at_call 28; refine (HIH.out p HPP.out.1 HPP.out.2.1 _ w3 (IsTy.below (HWX.out w3 HB3.out) _ _ HTY.out)).mono ?_; rintro e w6 ⟨u6, rfl, ho6, hb6⟩; have hst6 := Str.of_own ho6 (fun g hg => (HO3.out.lt g hg).2); have hoo6 := HO3.out.below hb6; have hbb6 := HB3.out.trans (hb6.mono HB3S.out); have HST6 := Lib.hid hst6; have HOO6 := Lib.hid hoo6; have HBB6 := Lib.hid hbb6; clear hst6 hoo6 hbb6 ho6 hb6)
  | (at_builtin; refine zlZ rfl _ _ rfl rfl rfl HOO6.out HST6.out (HPP.out.2.2.1) (by have := HPP.out; have := Sx.typ_len p; simp; omega) (Nat.le_trans HBB.out HBB6.out.size) ?_; intro r7 w7 hO7 hmv7))
 have hB7 := belowMv HBB6.out (Nat.le_trans HBB.out HBB6.out.size) hmv7 (fun g hg => (HOO6.out.lt g hg).1)
 have HO7 := Lib.hid hO7
 have HB7 := Lib.hid hB7
 clear hO7 hB7 hmv7
 go_ret
 exact ⟨_, rfl, by rw [HT.out]; exact HO7.out.base_le HWB.out, HWX.out _ HB7.out⟩
set_option maxRecDepth 100000 in
set_option maxHeartbeats 16000000 in
theorem typed7 (n : Nat) (hn : n + 1 ≤ 1000000) (ih : TypedOk n) (t : Sx.Ty) (hsz0 : Sx.size t ≤ n + 1) (hr0 : ∃ d, Sx.rightT NM d t = true) (hkd : t.kind = 7) (v : Value) (W : World) (ht : IsTy W v t) : TypedIs t v W := by
 unfold TypedIs
 obtain ⟨An, cn, Ae, ce, Ap, cp, rfl, hnm, hem, hp⟩ := ht.agg
 obtain ⟨d, hr⟩ := hr0
 obtain ⟨d', rfl, hr', hsh⟩ := Sx.right_parts hr
 rw [hkd] at hsh ht ⊢
 have hsz := Sx.size_parts t
 have hsl : Sx.sizeL t.parts ≤ n := by omega
 have hlp := Sx.length_size t.parts
 have hl1 : 0 < t.parts.length := by simp [Sx.shape] at hsh; omega
 have HL1 := Lib.hid hl1
 have HT := Lib.hid (show Sx.typ t = [102, 110] :: ([40] :: Sx.params 0 t.parts) by rw [Sx.typ_eq, hkd]; simp)
 have HIH := Lib.hid ih
 have HR := Lib.hid hr'
 have HSL := Lib.hid (show Sx.sizeL t.parts ≤ n ∧ n + 1 ≤ 1000000 from ⟨hsl, hn⟩)
 obtain ⟨L, hL⟩ : ∃ L, W.heap.size = L := ⟨_, rfl⟩
 obtain ⟨w2, hw2⟩ : ∃ w2, W.alloc (.cells #[.int .i64 7, .string ⟨t.name.toArray⟩, .slice An t.names.length cn, .slice Ae t.embeds.length ce, .slice Ap t.parts.length cp] 26) = w2 := ⟨_, rfl⟩
 have hbox : w2.heap[L]? = some (.cells #[.int .i64 7, .string ⟨t.name.toArray⟩, .slice An t.names.length cn, .slice Ae t.embeds.length ce, .slice Ap t.parts.length cp] 26 (0, 0)) := by rw [← hw2, ← hL]; exact heap_alloc_new W _
 have hb2 : Below L W w2 := by rw [← hw2, ← hL]; exact (Below.refl _ _).alloc (Nat.le_refl _) _
 obtain ⟨B, hB⟩ : ∃ B, w2.heap.size = B := ⟨_, rfl⟩
 have hLB : L < B := by rw [← hB]; exact zaZ hbox
 have HBB := Lib.hid (show B ≤ w2.heap.size by rw [hB]; exact Nat.le_refl _)
 have HWX := Lib.hid (fun X (h : Below B w2 X) => (show Below W.heap.size W X by rw [hL]; exact hb2.trans (h.mono (Nat.le_of_lt hLB))))
 have HWB := Lib.hid (show W.heap.size ≤ B by rw [hL]; exact Nat.le_of_lt hLB)
 have HBX := Lib.hid (fun X (h : Below B w2 X) => (show X.heap[L]? = some (.cells #[.int .i64 7, .string ⟨t.name.toArray⟩, .slice An t.names.length cn, .slice Ae t.embeds.length ce, .slice Ap t.parts.length cp] 26 (0, 0)) from (h.block L hLB).trans hbox))
 have HR2 := Lib.hid (show Below B w2 w2 from Below.refl _ _)
 have HO1 := Lib.hid (fun (s : Lx.Bytes) => (show OwnS (w2.alloc (.cells #[.string ⟨s.toArray⟩] 9)) B (.slice (some ⟨B, 0, none⟩) 1 1) [s] by have := OwnS.one (B := B) (s := s) (heap_alloc_new w2 (.cells #[.string ⟨s.toArray⟩] 9)) HBB.out; rw [hB] at this; exact this))
 have HP := Lib.hid hp
 have HNM := Lib.hid hnm
 have HEM := Lib.hid hem
 obtain ⟨x0, x1, x2, x3, x4⟩ := zcZ hbox
 have hl2 := zaZ hbox
 clear ih hr hr' ht hp hnm hem hsz hsl hbox hb2 hsh hkd hsz0 hn hl1
 go_enter Tryz.func28, Tryz.ntmps28
 obtain ⟨w3, hw3⟩ : ∃ w3, w2.alloc (.cells #[.string ⟨#[102, 110]⟩] 9) = w3 := ⟨_, rfl⟩
 have hb3 : Below B w2 w3 := by rw [← hw3]; exact HR2.out.alloc HBB.out _
 have ho3 : OwnS w3 B (.slice (some ⟨B, 0, none⟩) 1 1) [[102, 110]] := by rw [← hw3]; have := OwnS.one (B := B) (heap_alloc_new w2 (.cells #[.string ⟨#[102, 110]⟩] 9)) HBB.out; rw [hB] at this; exact this
 have hbox3 := HBX.out w3 hb3
 obtain ⟨y0, y1, y2, y3, y4⟩ := zcZ hbox3
 have hl3 := zaZ hbox3
 have HO3 := Lib.hid ho3
 have HB3 := Lib.hid hb3
 have HB3S := Lib.hid (show B ≤ w3.heap.size from Nat.le_trans HBB.out hb3.size)
 clear hb3 ho3 hbox3
 go_wp2_with (first
  | (go_at_call 69; refine (sigStep n (by have := HSL.out; omega) HIH.out t.parts HL1.out HSL.out.1 (fun p hm => ⟨_, HR.out p hm⟩) (fun p hm => Sx.typ_pos (HR.out p hm)) _ w3 (HP.out.below (HWX.out w3 HB3.out))).mono ?_; rintro e w6 ⟨u6, rfl, ho6, hb6⟩; have hst6 := Str.of_own ho6 (fun g hg => (HO3.out.lt g hg).2); have hoo6 := HO3.out.below hb6; have hbb6 := HB3.out.trans (hb6.mono HB3S.out); have HST6 := Lib.hid hst6; have HOO6 := Lib.hid hoo6; have HBB6 := Lib.hid hbb6; clear hst6 hoo6 hbb6 ho6 hb6)
  | (at_builtin; refine zlZ rfl _ _ rfl rfl rfl HOO6.out HST6.out (by simp) (by have := HSL.out; have := Sx.params_len 0 t.parts; simp; omega) (Nat.le_trans HBB.out HBB6.out.size) ?_; intro r7 w7 hO7 hmv7))
 have hB7 := belowMv HBB6.out (Nat.le_trans HBB.out HBB6.out.size) hmv7 (fun g hg => (HOO6.out.lt g hg).1)
 have HO7 := Lib.hid hO7
 have HB7 := Lib.hid hB7
 clear hO7 hB7 hmv7
 go_ret
 exact ⟨_, rfl, by rw [HT.out]; exact HO7.out.base_le HWB.out, HWX.out _ HB7.out⟩
end Go.Proofs.YtdncljdfmdgdaaaGreatDoor
namespace Go.Proofs.YtdncljdfmdgdaaaGreatDoor
open Go.RowKit Go.Shelf
set_option linter.unusedSimpArgs false
set_option linter.unusedVariables false
attribute [local go_sem] opWp zbsZ zccZ zbtZ
set_option maxRecDepth 100000 in
set_option maxHeartbeats 16000000 in
theorem typed8 (n : Nat) (hn : n + 1 ≤ 1000000) (ih : TypedOk n) (t : Sx.Ty) (hsz0 : Sx.size t ≤ n + 1) (hr0 : ∃ d, Sx.rightT NM d t = true) (hkd : t.kind = 8) (v : Value) (W : World) (ht : IsTy W v t) : TypedIs t v W := by
 unfold TypedIs
 obtain ⟨An, cn, Ae, ce, Ap, cp, rfl, hnm, hem, hp⟩ := ht.agg
 obtain ⟨d, hr⟩ := hr0
 obtain ⟨d', rfl, hr', hsh⟩ := Sx.right_parts hr
 rw [hkd] at hsh ht ⊢
 have hsz := Sx.size_parts t
 have hsl : Sx.sizeL t.parts ≤ n := by omega
 have hlp := Sx.length_size t.parts
 have hns : t.names.length = t.parts.length := by simp [Sx.shape] at hsh; omega
 have HNS := Lib.hid hns
 have HFN := Lib.hid (show ∀ p ∈ t.parts, p.kind = 7 by simp [Sx.shape] at hsh; exact hsh.1)
 have HT := Lib.hid (show Sx.typ t = [[105, 110, 116, 101, 114, 102, 97, 99, 101], [123]] ++ Sx.methods t.names t.parts ++ [[125]] by rw [Sx.typ_eq, hkd]; simp)
 have HIH := Lib.hid ih
 have HR := Lib.hid hr'
 have HSL := Lib.hid (show Sx.sizeL t.parts ≤ n ∧ n + 1 ≤ 1000000 from ⟨hsl, hn⟩)
 obtain ⟨L, hL⟩ : ∃ L, W.heap.size = L := ⟨_, rfl⟩
 obtain ⟨w2, hw2⟩ : ∃ w2, W.alloc (.cells #[.int .i64 8, .string ⟨t.name.toArray⟩, .slice An t.names.length cn, .slice Ae t.embeds.length ce, .slice Ap t.parts.length cp] 26) = w2 := ⟨_, rfl⟩
 have hbox : w2.heap[L]? = some (.cells #[.int .i64 8, .string ⟨t.name.toArray⟩, .slice An t.names.length cn, .slice Ae t.embeds.length ce, .slice Ap t.parts.length cp] 26 (0, 0)) := by rw [← hw2, ← hL]; exact heap_alloc_new W _
 have hb2 : Below L W w2 := by rw [← hw2, ← hL]; exact (Below.refl _ _).alloc (Nat.le_refl _) _
 obtain ⟨B, hB⟩ : ∃ B, w2.heap.size = B := ⟨_, rfl⟩
 have hLB : L < B := by rw [← hB]; exact zaZ hbox
 have HBB := Lib.hid (show B ≤ w2.heap.size by rw [hB]; exact Nat.le_refl _)
 have HWX := Lib.hid (fun X (h : Below B w2 X) => (show Below W.heap.size W X by rw [hL]; exact hb2.trans (h.mono (Nat.le_of_lt hLB))))
 have HWB := Lib.hid (show W.heap.size ≤ B by rw [hL]; exact Nat.le_of_lt hLB)
 have HBX := Lib.hid (fun X (h : Below B w2 X) => (show X.heap[L]? = some (.cells #[.int .i64 8, .string ⟨t.name.toArray⟩, .slice An t.names.length cn, .slice Ae t.embeds.length ce, .slice Ap t.parts.length cp] 26 (0, 0)) from (h.block L hLB).trans hbox))
 have HR2 := Lib.hid (show Below B w2 w2 from Below.refl _ _)
 have HO1 := Lib.hid (fun (s : Lx.Bytes) => (show OwnS (w2.alloc (.cells #[.string ⟨s.toArray⟩] 9)) B (.slice (some ⟨B, 0, none⟩) 1 1) [s] by have := OwnS.one (B := B) (s := s) (heap_alloc_new w2 (.cells #[.string ⟨s.toArray⟩] 9)) HBB.out; rw [hB] at this; exact this))
 have HP := Lib.hid hp
 have HNM := Lib.hid hnm
 have HEM := Lib.hid hem
 obtain ⟨x0, x1, x2, x3, x4⟩ := zcZ hbox
 have hl2 := zaZ hbox
 clear ih hr hr' ht hp hnm hem hsz hsl hbox hb2 hsh hkd hsz0 hn hns
 go_enter Tryz.func28, Tryz.ntmps28
 obtain ⟨k, hk⟩ : ∃ k, t.parts.length = k := ⟨_, rfl⟩
 have hki : (k : Int) ≤ 1000000 := by have := HSL.out; omega
 have HK := Lib.hid hk
 clear hlp
 rw [hk] at x4
 obtain ⟨w3, hw3⟩ : ∃ w3, w2.alloc (.cells #[.string ⟨#[105, 110, 116, 101, 114, 102, 97, 99, 101]⟩, .string ⟨#[123]⟩] 9) = w3 := ⟨_, rfl⟩
 have hb3 : Below B w2 w3 := by rw [← hw3]; exact HR2.out.alloc HBB.out _
 have ho3 : OwnS w3 B (.slice (some ⟨B, 0, none⟩) 2 2) ([[105, 110, 116, 101, 114, 102, 97, 99, 101], [123]] ++ Sx.methods (t.names.take 0) (t.parts.take 0)) := by
  rw [← hw3]
  have := OwnS.arr (B := B) (l := [[105, 110, 116, 101, 114, 102, 97, 99, 101], [123]]) (heap_alloc_new w2 (.cells #[.string ⟨#[105, 110, 116, 101, 114, 102, 97, 99, 101]⟩, .string ⟨#[123]⟩] 9)) rfl (by simp [maxLen]) HBB.out
  rw [hB] at this
  simpa [Sx.fields, Sx.methods] using this
 have HO3 := Lib.hid ho3
 have HB3 := Lib.hid hb3
 clear ho3 hb3 hk
 go_wp2_with fail
 go_loopg [3, 4] k (fun i v3 v4 wr => ∃ (m : Nat) (A5 : Option Addr) (n5 c5 : Nat), i = k - m ∧ v3 = .slice A5 n5 c5 ∧ v4 = .int .i64 (m : Nat) ∧ m ≤ k ∧ OwnS wr B (.slice A5 n5 c5) ([[105, 110, 116, 101, 114, 102, 97, 99, 101], [123]] ++ Sx.methods (t.names.take m) (t.parts.take m)) ∧ Below B w2 wr)
 case atStart => exact ⟨0, some ⟨B, 0, none⟩, 2, 2, rfl, rfl, rfl, Nat.zero_le _, HO3.out, HB3.out⟩
 case round =>
  obtain ⟨m, A5, n5, c5, hi, rfl, rfl, hm, ho, hb⟩ := hrel
  have HI := Lib.hid hi
  have HO := Lib.hid ho
  have HBW := Lib.hid hb
  have m0 : (0 : Int) ≤ (m : Int) := by omega
  have m1 : (m : Int) ≤ 1000000 := by omega
  clear hi ho hb x0 x1 x2 x3 x4
  have hboxr := HBX.out wr HBW.out
  rw [HK.out] at hboxr
  obtain ⟨x0, x1, x2, x3, x4⟩ := zcZ hboxr
  have hlr := zaZ hboxr
  clear hboxr
  by_cases hlt : m < k
  ·have hmi : (m : Int) < (k : Int) := by omega
   have hwr : IntKind.i64.wrap ((m : Int) + 1) = (m : Int) + 1 := by rw [IntKind.wrap_i64]; omega
   have hmp : m < t.parts.length := by have := HK.out; omega
   have hmn : m < t.names.length := by have := HNS.out; omega
   have hmni : (m : Int) < (t.names.length : Int) := by omega
   have hsz1 := Sx.sizeL_take_le t.parts m
   have hsz2 := Sx.size_mem (List.getElem_mem hmp)
   obtain ⟨g, off, An1, cn1, Ae1, ce1, Aq, cq, rfl, hty, hc5⟩ := HP.out.spot m hmp
   obtain ⟨g1, off1, rfl, hsp1⟩ := HNM.out.spot m hmn
   have hpt := Sx.methods_take HNS.out hmp
   obtain ⟨p, hpe⟩ : ∃ p, t.parts[m]'hmp = p := ⟨_, rfl⟩
   obtain ⟨s, hse⟩ : ∃ s, t.names[m]'hmn = s := ⟨_, rfl⟩
   have hmem : p ∈ t.parts := by rw [← hpe]; exact List.getElem_mem hmp
   rw [hpe] at hc5 hty hpt hsz2
   rw [hse] at hsp1 hpt
   have HTY := Lib.hid hty
   have HC5 := Lib.hid hc5
   have HS1 := Lib.hid hsp1
   have HPT := Lib.hid hpt
   have HMEM := Lib.hid hmem
   have HLEN := Lib.hid (show ([[105, 110, 116, 101, 114, 102, 97, 99, 101], [123]] ++ Sx.methods (t.names.take m) (t.parts.take m)).length + ([40] :: Sx.params 0 p.parts).length ≤ 50000000 by
    have h1 := Sx.methods_len (t.names.take m) (t.parts.take m)
    have h2 := Sx.params_len 0 p.parts
    have h3 := Sx.size_parts p
    have h4 := HSL.out
    simp only [List.length_append, List.length_cons, List.length_nil]
    omega)
   have HPP := Lib.hid (show (∀ q ∈ p.parts, ∃ d, Sx.rightT NM d q = true) ∧ 0 < p.parts.length ∧ Sx.sizeL p.parts ≤ n by
    obtain ⟨e', he', hq, hs'⟩ := Sx.right_parts (HR.out p HMEM.out)
    refine ⟨fun q hq' => ⟨_, hq q hq'⟩, ?_, ?_⟩
    ·rw [HFN.out p HMEM.out] at hs'
     simp [Sx.shape] at hs'
     omega
    ·have := Sx.size_parts p
     have := HSL.out
     omega)
   clear hty hpt hmem hpe hse hc5 hsp1 hsz1 hsz2
   go_wp2_with fail
   have hB0 : Below B w2 wr.drew := HBW.out.drew
   have hO0 : OwnS wr.drew B (.slice A5 n5 c5) ([[105, 110, 116, 101, 114, 102, 97, 99, 101], [123]] ++ Sx.methods (t.names.take m) (t.parts.take m)) := HO.out
   clear x0 x1 x2 x3 x4 hlr
   obtain ⟨Fs, hFs⟩ : ∃ F : List (Value → World → Value → Nat → Prop), [IsF (.slice A5 n5 c5), IsF (.pointer (some ⟨L, 2, none⟩)), IsF (.slice (some ⟨g1, off1, none⟩) t.names.length cn), IsF (.int .i64 (m : Int)), IsF (.pointer (some ⟨g1, off1 + m, none⟩)), IsF (.string ⟨s.toArray⟩), StrF [s], AppF 0, IsF (.pointer (some ⟨L, 4, none⟩)), IsF (.slice (some ⟨g, off, none⟩) k cp), IsF (.int .i64 (m : Int)), IsF (.pointer (some ⟨g, off + m * 5, none⟩)), IsF (.pointer (some ⟨g, off + m * 5 + 4, none⟩)), IsF (.slice Aq p.parts.length cq), StrF ([40] :: Sx.params 0 p.parts), AppF 1, StrF [[59]], AppF 2, AppF 2] = F := ⟨_, rfl⟩
   have F0 : nth Fs 0 = IsF _ := nth_of hFs rfl
   have F1 : nth Fs 1 = IsF _ := nth_of hFs rfl
   have F2 : nth Fs 2 = IsF _ := nth_of hFs rfl
   have F3 : nth Fs 3 = IsF _ := nth_of hFs rfl
   have F4 : nth Fs 4 = IsF _ := nth_of hFs rfl
   have F5 : nth Fs 5 = IsF _ := nth_of hFs rfl
   have F6 : nth Fs 6 = StrF _ := nth_of hFs rfl
   have F7 : nth Fs 7 = AppF 0 := nth_of hFs rfl
   have F8 : nth Fs 8 = IsF _ := nth_of hFs rfl
   have F9 : nth Fs 9 = IsF _ := nth_of hFs rfl
   have F10 : nth Fs 10 = IsF _ := nth_of hFs rfl
   have F11 : nth Fs 11 = IsF _ := nth_of hFs rfl
   have F12 : nth Fs 12 = IsF _ := nth_of hFs rfl
   have F13 : nth Fs 13 = IsF _ := nth_of hFs rfl
   have F14 : nth Fs 14 = StrF _ := nth_of hFs rfl
   have F15 : nth Fs 15 = AppF 1 := nth_of hFs rfl
   have F16 : nth Fs 16 = StrF _ := nth_of hFs rfl
   have F17 : nth Fs 17 = AppF 2 := nth_of hFs rfl
   have F18 : nth Fs 18 = AppF 2 := nth_of hFs rfl
   have hstay : AllStay RowM Fs := by rw [← hFs]; exact .cons IsF.stays (.cons IsF.stays (.cons IsF.stays (.cons IsF.stays (.cons IsF.stays (.cons IsF.stays (.cons StrF.stays (.cons AppF.stays (.cons IsF.stays (.cons IsF.stays (.cons IsF.stays (.cons IsF.stays (.cons IsF.stays (.cons IsF.stays (.cons StrF.stays (.cons AppF.stays (.cons StrF.stays (.cons AppF.stays (.cons AppF.stays (.nil)))))))))))))))))))
   obtain ⟨Lf, hLf⟩ : ∃ f : Nat → List Lx.Bytes, (fun k => ([([[105, 110, 116, 101, 114, 102, 97, 99, 101], [123]] ++ Sx.methods (t.names.take m) (t.parts.take m)), ([[105, 110, 116, 101, 114, 102, 97, 99, 101], [123]] ++ Sx.methods (t.names.take m) (t.parts.take m)) ++ [s], ([[105, 110, 116, 101, 114, 102, 97, 99, 101], [123]] ++ Sx.methods (t.names.take m) (t.parts.take m)) ++ [s] ++ ([40] :: Sx.params 0 p.parts), ([[105, 110, 116, 101, 114, 102, 97, 99, 101], [123]] ++ Sx.methods (t.names.take m) (t.parts.take m)) ++ [s] ++ ([40] :: Sx.params 0 p.parts) ++ [[59]]] : List (List Lx.Bytes)).getD k []) = f := ⟨_, rfl⟩
   have L0 : Lf 0 = ([[105, 110, 116, 101, 114, 102, 97, 99, 101], [123]] ++ Sx.methods (t.names.take m) (t.parts.take m)) := by rw [← hLf]; rfl
   have L1 : Lf 1 = ([[105, 110, 116, 101, 114, 102, 97, 99, 101], [123]] ++ Sx.methods (t.names.take m) (t.parts.take m)) ++ [s] := by rw [← hLf]; rfl
   have L2 : Lf 2 = ([[105, 110, 116, 101, 114, 102, 97, 99, 101], [123]] ++ Sx.methods (t.names.take m) (t.parts.take m)) ++ [s] ++ ([40] :: Sx.params 0 p.parts) := by rw [← hLf]; rfl
   have L3 : Lf 3 = ([[105, 110, 116, 101, 114, 102, 97, 99, 101], [123]] ++ Sx.methods (t.names.take m) (t.parts.take m)) ++ [s] ++ ([40] :: Sx.params 0 p.parts) ++ [[59]] := by rw [← hLf]; rfl
   clear hFs hLf
   refine zbaZ (by kernel_rfl) [7, 15, 17] (RowI B w2 (.slice A5 n5 c5) Lf) RowM Fs (.slice A5 n5 c5) (by kernel_rfl) (by kernel_rfl) (by kernel_rfl) (by kernel_rfl) (by kernel_rfl) hstay (n := 19) (by kernel_rfl) ⟨hB0, by rw [L0]; exact hO0, fun _ => rfl⟩ ?_ ?_
   ·refine .cons ?_ (.cons ?_ (.cons ?_ (.cons ?_ (.cons ?_ (.cons ?_ (.cons ?_ (.cons ?_ (.cons ?_ (.cons ?_ (.cons ?_ (.cons ?_ (.cons ?_ (.cons ?_ (.cons ?_ (.cons ?_ (.cons ?_ (.cons ?_ (.cons ?_ (.nil)))))))))))))))))))
    ·exact OpOk.mov rfl rfl F0 RowM.rf rfl fun ρ w r k E => E.z 3 18 [17, 15, 7, 0] (by kernel_rfl)
    ·refine OpOk.val rfl rfl F1 RowM.rf fun ρ w r k E hI K hK => ?_
     have e1 : ρ (.tmp 1) = .pointer (some ⟨L, 0, none⟩) := E.n 1 (by kernel_rfl)
     obtain ⟨x0, x1, x2, x3, x4⟩ := zcZ (HBX.out w hI.1)
     rw [HK.out] at x4
     have hlz := zaZ (HBX.out w hI.1)
     go_simp
     exact hK
    ·refine OpOk.val rfl rfl F2 RowM.rf fun ρ w r k E hI K hK => ?_
     have e50 := E.e 50 1 (by kernel_rfl) F1
     obtain ⟨x0, x1, x2, x3, x4⟩ := zcZ (HBX.out w hI.1)
     rw [HK.out] at x4
     have hlz := zaZ (HBX.out w hI.1)
     go_simp
     exact hK
    ·exact OpOk.mov rfl rfl F3 RowM.rf rfl fun ρ w r k E => E.n 4 (by kernel_rfl)
    ·refine OpOk.val rfl rfl F4 RowM.rf fun ρ w r k E hI K hK => ?_
     have e51 := E.e 51 2 (by kernel_rfl) F2
     have e52 := E.e 52 3 (by kernel_rfl) F3
     obtain ⟨q0, q1⟩ := HS1.out w (HWX.out w hI.1)
     go_simp
     exact hK
    ·refine OpOk.val rfl rfl F5 RowM.rf fun ρ w r k E hI K hK => ?_
     have e53 := E.e 53 4 (by kernel_rfl) F4
     obtain ⟨q0, q1⟩ := HS1.out w (HWX.out w hI.1)
     go_simp
     exact hK
    ·refine OpOk.one rfl rfl F6 HBB.out fun ρ w r k E hI K hK => ?_
     have e54 := E.e 54 5 (by kernel_rfl) F5
     go_simp
     exact hK _ rfl
    ·exact OpOk.app0 (s := 49) (x := 55) (q0 := 0) (q := 6) rfl rfl rfl F7 L0 L1 rfl (by simp) (by (have h1 := HLEN.out; simp only [List.length_append, List.length_cons, List.length_nil] at *; omega)) HBB.out F0 (by kernel_rfl) F6 (by kernel_rfl)
    ·refine OpOk.val rfl rfl F8 RowM.rf fun ρ w r k E hI K hK => ?_
     have e1 : ρ (.tmp 1) = .pointer (some ⟨L, 0, none⟩) := E.n 1 (by kernel_rfl)
     obtain ⟨x0, x1, x2, x3, x4⟩ := zcZ (HBX.out w hI.1)
     rw [HK.out] at x4
     have hlz := zaZ (HBX.out w hI.1)
     go_simp
     exact hK
    ·refine OpOk.val rfl rfl F9 RowM.rf fun ρ w r k E hI K hK => ?_
     have e57 := E.e 57 8 (by kernel_rfl) F8
     obtain ⟨x0, x1, x2, x3, x4⟩ := zcZ (HBX.out w hI.1)
     rw [HK.out] at x4
     have hlz := zaZ (HBX.out w hI.1)
     go_simp
     exact hK
    ·exact OpOk.mov rfl rfl F10 RowM.rf rfl fun ρ w r k E => E.n 4 (by kernel_rfl)
    ·refine OpOk.val rfl rfl F11 RowM.rf fun ρ w r k E hI K hK => ?_
     have e58 := E.e 58 9 (by kernel_rfl) F9
     have e59 := E.e 59 10 (by kernel_rfl) F10
     have hcc := HC5.out w (HWX.out w hI.1)
     have hg := hcc.1
     have c0 := hcc.2.1
     have c1 := hcc.2.2.1
     have c2 := hcc.2.2.2.1
     have c3 := hcc.2.2.2.2.1
     have c4 := hcc.2.2.2.2.2
     clear hcc
     go_simp
     exact hK
    ·refine OpOk.val rfl rfl F12 RowM.rf fun ρ w r k E hI K hK => ?_
     have e60 := E.e 60 11 (by kernel_rfl) F11
     have hcc := HC5.out w (HWX.out w hI.1)
     have hg := hcc.1
     have c0 := hcc.2.1
     have c1 := hcc.2.2.1
     have c2 := hcc.2.2.2.1
     have c3 := hcc.2.2.2.2.1
     have c4 := hcc.2.2.2.2.2
     clear hcc
     go_simp
     exact hK
    ·refine OpOk.val rfl rfl F13 RowM.rf fun ρ w r k E hI K hK => ?_
     have e61 := E.e 61 12 (by kernel_rfl) F12
     have hcc := HC5.out w (HWX.out w hI.1)
     have hg := hcc.1
     have c0 := hcc.2.1
     have c1 := hcc.2.2.1
     have c2 := hcc.2.2.2.1
     have c3 := hcc.2.2.2.2.1
     have c4 := hcc.2.2.2.2.2
     clear hcc
     go_simp
     exact hK
    ·exact OpOk.call (args := #[.slice Aq p.parts.length cq]) rfl rfl F14 HBB.out rfl Tryz.func69 (by kernel_rfl) rfl (fun ρ w r k E => by simp only [List.map_toArray, List.map_cons, List.map_nil, E.e 62 13 (by kernel_rfl) F13]) fun w hb => sigStep n (by have := HSL.out; omega) HIH.out p.parts HPP.out.2.1 HPP.out.2.2 HPP.out.1 (fun q hq => by obtain ⟨d, hd⟩ := HPP.out.1 q hq; exact Sx.typ_pos hd) _ w (IsTy.row (IsTy.below (HWX.out w hb) _ _ HTY.out))
    ·exact OpOk.appN (j := 0) (s := 56) (x := 63) (p := 7) (q := 14) rfl rfl rfl F15 L1 L2 rfl (by simp) (by (have h1 := HLEN.out; simp only [List.length_append, List.length_cons, List.length_nil] at *; omega)) HBB.out F7 (by kernel_rfl) F14 (by kernel_rfl)
    ·refine OpOk.one rfl rfl F16 HBB.out fun ρ w r k E hI K hK => ?_
     have c := E.c
     go_simp
     exact hK _ rfl
    ·exact OpOk.appN (j := 1) (s := 64) (x := 65) (p := 15) (q := 16) rfl rfl rfl F17 L2 L3 rfl (by simp) (by (have h1 := HLEN.out; simp only [List.length_append, List.length_cons, List.length_nil] at *; omega)) HBB.out F15 (by kernel_rfl) F16 (by kernel_rfl)
    ·exact OpOk.asg rfl rfl F18 F17 rfl (by kernel_rfl)
   ·intro uq wq rq hI hF
    have f18 : uq 18 = rq := ((of_nth F18 (hF 18 (by decide))).2 rfl).symm
    have hBz := hI.1
    have hOz := hI.2.1
    rw [show ([7, 15, 17] : List Nat).length = 3 from rfl, L3] at hOz
    simp only [List.toList_toArray, fillAct, Act.put, List.setIfInBounds_toArray, List.set_cons_zero, List.set_cons_succ, f18]
    clear hI hF F0 F1 F2 F3 F4 F5 F6 F7 F8 F9 F10 F11 F12 F13 F14 F15 F16 F17 F18 hstay L0 L1 L2 L3
    obtain ⟨A9, c9, rfl⟩ := hOz.slice
    have HOZ := Lib.hid hOz
    have HBZ := Lib.hid hBz
    clear hOz hBz
    go_wp2_with fail
    go_roundg (k - (m + 1))
    case measure => have := HI.out; omega
    case rel => exact ⟨m + 1, A9, _, c9, rfl, rfl, by simp, hlt, by rw [HPT.out]; simpa [List.append_assoc, Sx.sig_eq] using HOZ.out, HBZ.out⟩
  ·have hmi : ¬ (m : Int) < (k : Int) := by omega
   have hlast : Sx.methods (t.names.take m) (t.parts.take m) = Sx.methods t.names t.parts := by
    rw [List.take_of_length_le (show t.names.length ≤ m by have := HK.out; have := HNS.out; omega), List.take_of_length_le (show t.parts.length ≤ m by have := HK.out; omega)]
   have HLA := Lib.hid hlast
   have HLEN := Lib.hid (show ([[105, 110, 116, 101, 114, 102, 97, 99, 101], [123]] ++ Sx.methods (t.names.take m) (t.parts.take m)).length ≤ 50000000 by
    have h1 := Sx.methods_len (t.names.take m) (t.parts.take m)
    have h2 := Sx.sizeL_take_le t.parts m
    have h4 := HSL.out
    simp only [List.length_append, List.length_cons, List.length_nil]
    omega)
   clear hlast
   obtain ⟨wa, hwa⟩ : ∃ wa, wr.alloc (.cells #[.string ⟨#[125]⟩] 9) = wa := ⟨_, rfl⟩
   have hoa : OwnS wa B (.slice A5 n5 c5) ([[105, 110, 116, 101, 114, 102, 97, 99, 101], [123]] ++ Sx.methods (t.names.take m) (t.parts.take m)) := by rw [← hwa]; exact HO.out.below ((Below.refl _ _).alloc (Nat.le_refl _) _)
   have hba : Below B w2 wa := by rw [← hwa]; exact HBW.out.alloc (Nat.le_trans HBB.out HBW.out.size) _
   have hsa : Str wa (.slice (some ⟨wr.heap.size, 0, none⟩) 1 1) [[125]] (.slice A5 n5 c5) := by rw [← hwa]; exact Str.one (heap_alloc_new wr _) (fun q hq => (HO.out.lt q hq).2)
   have HOA := Lib.hid hoa
   have HBA := Lib.hid hba
   have HSA := Lib.hid hsa
   clear hoa hba hsa
   go_wp2_with (at_builtin; refine zlZ rfl _ _ rfl rfl rfl HOA.out HSA.out (by decide) (by have := HLEN.out; simp only [List.length_append, List.length_cons, List.length_nil] at *; omega) (Nat.le_trans HBB.out HBA.out.size) ?_; intro r5 w5 hO5 hmv; have hB5 := belowMv HBA.out (Nat.le_trans HBB.out HBA.out.size) hmv (fun g hg => (HOA.out.lt g hg).1); have HO5 := Lib.hid hO5; have HB5 := Lib.hid hB5; clear hO5 hB5 hmv)
   go_ret
   subst hL
   exact ⟨_, rfl, by rw [HT.out, ← HLA.out]; exact HO5.out.base_le HWB.out, HWX.out _ HB5.out⟩
set_option maxRecDepth 100000 in
set_option maxHeartbeats 16000000 in
theorem typed6 (n : Nat) (hn : n + 1 ≤ 1000000) (ih : TypedOk n) (t : Sx.Ty) (hsz0 : Sx.size t ≤ n + 1) (hr0 : ∃ d, Sx.rightT NM d t = true) (hkd : t.kind = 6) (v : Value) (W : World) (ht : IsTy W v t) : TypedIs t v W := by
 unfold TypedIs
 obtain ⟨An, cn, Ae, ce, Ap, cp, rfl, hnm, hem, hp⟩ := ht.agg
 obtain ⟨d, hr⟩ := hr0
 obtain ⟨d', rfl, hr', hsh⟩ := Sx.right_parts hr
 rw [hkd] at hsh ht ⊢
 have hsz := Sx.size_parts t
 have hsl : Sx.sizeL t.parts ≤ n := by omega
 have hlp := Sx.length_size t.parts
 have hns : t.names.length = t.parts.length := by simp [Sx.shape] at hsh; omega
 have HNS := Lib.hid hns
 have hes : t.embeds.length = t.parts.length := by simp [Sx.shape] at hsh; omega
 have HES := Lib.hid hes
 have HT := Lib.hid (show Sx.typ t = [[123]] ++ Sx.fields t.names t.embeds t.parts ++ [[125]] by rw [Sx.typ_eq, hkd]; simp)
 have HIH := Lib.hid ih
 have HR := Lib.hid hr'
 have HSL := Lib.hid (show Sx.sizeL t.parts ≤ n ∧ n + 1 ≤ 1000000 from ⟨hsl, hn⟩)
 obtain ⟨L, hL⟩ : ∃ L, W.heap.size = L := ⟨_, rfl⟩
 obtain ⟨w2, hw2⟩ : ∃ w2, W.alloc (.cells #[.int .i64 6, .string ⟨t.name.toArray⟩, .slice An t.names.length cn, .slice Ae t.embeds.length ce, .slice Ap t.parts.length cp] 26) = w2 := ⟨_, rfl⟩
 have hbox : w2.heap[L]? = some (.cells #[.int .i64 6, .string ⟨t.name.toArray⟩, .slice An t.names.length cn, .slice Ae t.embeds.length ce, .slice Ap t.parts.length cp] 26 (0, 0)) := by rw [← hw2, ← hL]; exact heap_alloc_new W _
 have hb2 : Below L W w2 := by rw [← hw2, ← hL]; exact (Below.refl _ _).alloc (Nat.le_refl _) _
 obtain ⟨B, hB⟩ : ∃ B, w2.heap.size = B := ⟨_, rfl⟩
 have hLB : L < B := by rw [← hB]; exact zaZ hbox
 have HBB := Lib.hid (show B ≤ w2.heap.size by rw [hB]; exact Nat.le_refl _)
 have HWX := Lib.hid (fun X (h : Below B w2 X) => (show Below W.heap.size W X by rw [hL]; exact hb2.trans (h.mono (Nat.le_of_lt hLB))))
 have HWB := Lib.hid (show W.heap.size ≤ B by rw [hL]; exact Nat.le_of_lt hLB)
 have HBX := Lib.hid (fun X (h : Below B w2 X) => (show X.heap[L]? = some (.cells #[.int .i64 6, .string ⟨t.name.toArray⟩, .slice An t.names.length cn, .slice Ae t.embeds.length ce, .slice Ap t.parts.length cp] 26 (0, 0)) from (h.block L hLB).trans hbox))
 have HR2 := Lib.hid (show Below B w2 w2 from Below.refl _ _)
 have HO1 := Lib.hid (fun (s : Lx.Bytes) => (show OwnS (w2.alloc (.cells #[.string ⟨s.toArray⟩] 9)) B (.slice (some ⟨B, 0, none⟩) 1 1) [s] by have := OwnS.one (B := B) (s := s) (heap_alloc_new w2 (.cells #[.string ⟨s.toArray⟩] 9)) HBB.out; rw [hB] at this; exact this))
 have HP := Lib.hid hp
 have HNM := Lib.hid hnm
 have HEM := Lib.hid hem
 obtain ⟨x0, x1, x2, x3, x4⟩ := zcZ hbox
 have hl2 := zaZ hbox
 clear ih hr hr' ht hp hnm hem hsz hsl hbox hb2 hsh hkd hsz0 hn hns hes
 go_enter Tryz.func28, Tryz.ntmps28
 obtain ⟨k, hk⟩ : ∃ k, t.parts.length = k := ⟨_, rfl⟩
 have hki : (k : Int) ≤ 1000000 := by have := HSL.out; omega
 have HK := Lib.hid hk
 clear hlp
 rw [hk] at x4
 obtain ⟨w3, hw3⟩ : ∃ w3, w2.alloc (.cells #[.string ⟨#[123]⟩] 9) = w3 := ⟨_, rfl⟩
 have hb3 : Below B w2 w3 := by rw [← hw3]; exact HR2.out.alloc HBB.out _
 have ho3 : OwnS w3 B (.slice (some ⟨B, 0, none⟩) 1 1) ([[123]] ++ Sx.fields (t.names.take 0) (t.embeds.take 0) (t.parts.take 0)) := by
  rw [← hw3]
  have := OwnS.arr (B := B) (l := [[123]]) (heap_alloc_new w2 (.cells #[.string ⟨#[123]⟩] 9)) rfl (by simp [maxLen]) HBB.out
  rw [hB] at this
  simpa [Sx.fields, Sx.methods] using this
 have HO3 := Lib.hid ho3
 have HB3 := Lib.hid hb3
 clear ho3 hb3 hk
 go_wp2_with fail
 go_loopg [5, 6] k (fun i v3 v4 wr => ∃ (m : Nat) (A5 : Option Addr) (n5 c5 : Nat), i = k - m ∧ v3 = .slice A5 n5 c5 ∧ v4 = .int .i64 (m : Nat) ∧ m ≤ k ∧ OwnS wr B (.slice A5 n5 c5) ([[123]] ++ Sx.fields (t.names.take m) (t.embeds.take m) (t.parts.take m)) ∧ Below B w2 wr)
 case atStart => exact ⟨0, some ⟨B, 0, none⟩, 1, 1, rfl, rfl, rfl, Nat.zero_le _, HO3.out, HB3.out⟩
 case round =>
  obtain ⟨m, A5, n5, c5, hi, rfl, rfl, hm, ho, hb⟩ := hrel
  have HI := Lib.hid hi
  have HO := Lib.hid ho
  have HBW := Lib.hid hb
  have m0 : (0 : Int) ≤ (m : Int) := by omega
  have m1 : (m : Int) ≤ 1000000 := by omega
  clear hi ho hb x0 x1 x2 x3 x4
  have hboxr := HBX.out wr HBW.out
  rw [HK.out] at hboxr
  obtain ⟨x0, x1, x2, x3, x4⟩ := zcZ hboxr
  have hlr := zaZ hboxr
  clear hboxr
  by_cases hlt : m < k
  ·have hmi : (m : Int) < (k : Int) := by omega
   have hwr : IntKind.i64.wrap ((m : Int) + 1) = (m : Int) + 1 := by rw [IntKind.wrap_i64]; omega
   have hmp : m < t.parts.length := by have := HK.out; omega
   have hmn : m < t.names.length := by have := HNS.out; omega
   have hmni : (m : Int) < (t.names.length : Int) := by omega
   have hme : m < t.embeds.length := by have := HES.out; omega
   have hmei : (m : Int) < (t.embeds.length : Int) := by omega
   have hsz1 := Sx.sizeL_take_le t.parts m
   have hsz2 := Sx.size_mem (List.getElem_mem hmp)
   obtain ⟨g, off, An1, cn1, Ae1, ce1, Aq, cq, rfl, hty, hc5⟩ := HP.out.spot m hmp
   obtain ⟨g1, off1, rfl, hsp1⟩ := HNM.out.spot m hmn
   obtain ⟨g2, off2, rfl, hsp2⟩ := HEM.out.spot m hme
   have hpt := Sx.fields_take HNS.out HES.out hmp
   obtain ⟨p, hpe⟩ : ∃ p, t.parts[m]'hmp = p := ⟨_, rfl⟩
   obtain ⟨s, hse⟩ : ∃ s, t.names[m]'hmn = s := ⟨_, rfl⟩
   have hmem : p ∈ t.parts := by rw [← hpe]; exact List.getElem_mem hmp
   rw [hpe] at hc5 hty hpt hsz2
   rw [hse] at hsp1 hpt
   obtain ⟨e, hee⟩ : ∃ e, t.embeds[m]'hme = e := ⟨_, rfl⟩
   rw [hee] at hsp2 hpt
   have HS2 := Lib.hid hsp2
   have HTY := Lib.hid hty
   have HC5 := Lib.hid hc5
   have HS1 := Lib.hid hsp1
   have HPT := Lib.hid hpt
   have HMEM := Lib.hid hmem
   have HLEN := Lib.hid (show ([[123]] ++ Sx.fields (t.names.take m) (t.embeds.take m) (t.parts.take m)).length + (Sx.typ p).length ≤ 50000000 by
    have h1 := Sx.fields_len (t.names.take m) (t.embeds.take m) (t.parts.take m)
    have h2 := Sx.typ_len p
    have h4 := HSL.out
    simp only [List.length_append, List.length_cons, List.length_nil]
    omega)
   have HPP := Lib.hid (show Sx.size p ≤ n ∧ (∃ d, Sx.rightT NM d p = true) ∧ 0 < (Sx.typ p).length from ⟨by have := HSL.out; omega, ⟨_, HR.out p HMEM.out⟩, Sx.typ_pos (HR.out p HMEM.out)⟩)
   clear hty hpt hmem hpe hse hc5 hsp1 hsz1 hsz2 hee hsp2
   obtain ⟨z0, z1⟩ := HS2.out wr (HWX.out wr HBW.out)
   cases e with
   | true =>
    obtain ⟨wa, hwa⟩ : ∃ wa, wr.alloc (.cells #[.string ⟨#[101, 109, 98, 101, 100]⟩] 9) = wa := ⟨_, rfl⟩
    have hoa : OwnS wa B (.slice A5 n5 c5) ([[123]] ++ Sx.fields (t.names.take m) (t.embeds.take m) (t.parts.take m)) := by rw [← hwa]; exact HO.out.below ((Below.refl _ _).alloc (Nat.le_refl _) _)
    have hba : Below B w2 wa := by rw [← hwa]; exact HBW.out.alloc (Nat.le_trans HBB.out HBW.out.size) _
    have hsa : Str wa (.slice (some ⟨wr.heap.size, 0, none⟩) 1 1) [[101, 109, 98, 101, 100]] (.slice A5 n5 c5) := by rw [← hwa]; exact Str.one (heap_alloc_new wr _) (fun q hq => (HO.out.lt q hq).2)
    have HOA := Lib.hid hoa
    have HBA := Lib.hid hba
    have HSA := Lib.hid hsa
    clear hoa hba hsa
    go_wp2_with (at_builtin; refine zlZ rfl _ _ rfl rfl rfl HOA.out HSA.out (by decide) (by have := HLEN.out; simp only [List.length_append, List.length_cons, List.length_nil] at *; omega) (Nat.le_trans HBB.out HBA.out.size) ?_; intro r5 w5 hO5 hmv; have hB5 := belowMv HBA.out (Nat.le_trans HBB.out HBA.out.size) hmv (fun g hg => (HOA.out.lt g hg).1); have HO5 := Lib.hid hO5; have HB5 := Lib.hid hB5; clear hO5 hB5 hmv x0 x1 x2 x3 x4 hlr z0 z1; obtain ⟨x0, x1, x2, x3, x4⟩ := zcZ (HBX.out w5 HB5.out); rw [HK.out] at x4; have hlr := zaZ (HBX.out w5 HB5.out))
    obtain ⟨A6, c6, rfl⟩ := HO5.out.slice
    have hB0 : Below B w2 w5.drew := HB5.out.drew
    have hO0 : OwnS w5.drew B (.slice A6 (([[123]] ++ Sx.fields (t.names.take m) (t.embeds.take m) (t.parts.take m)) ++ [[101, 109, 98, 101, 100]]).length c6) (([[123]] ++ Sx.fields (t.names.take m) (t.embeds.take m) (t.parts.take m)) ++ [[101, 109, 98, 101, 100]]) := HO5.out
    clear x0 x1 x2 x3 x4 hlr
    obtain ⟨Fs, hFs⟩ : ∃ F : List (Value → World → Value → Nat → Prop), [IsF (.slice A6 (([[123]] ++ Sx.fields (t.names.take m) (t.embeds.take m) (t.parts.take m)) ++ [[101, 109, 98, 101, 100]]).length c6), IsF (.pointer (some ⟨L, 2, none⟩)), IsF (.slice (some ⟨g1, off1, none⟩) t.names.length cn), IsF (.int .i64 (m : Int)), IsF (.pointer (some ⟨g1, off1 + m, none⟩)), IsF (.string ⟨s.toArray⟩), StrF [s], AppF 0, IsF (.pointer (some ⟨L, 4, none⟩)), IsF (.slice (some ⟨g, off, none⟩) k cp), IsF (.int .i64 (m : Int)), IsF (.pointer (some ⟨g, off + m * 5, none⟩)), IsF (.agg #[.int .i64 p.kind, .string ⟨p.name.toArray⟩, .slice An1 p.names.length cn1, .slice Ae1 p.embeds.length ce1, .slice Aq p.parts.length cq]), StrF (Sx.typ p), AppF 1, StrF [[59]], AppF 2, AppF 2] = F := ⟨_, rfl⟩
    have F0 : nth Fs 0 = IsF _ := nth_of hFs rfl
    have F1 : nth Fs 1 = IsF _ := nth_of hFs rfl
    have F2 : nth Fs 2 = IsF _ := nth_of hFs rfl
    have F3 : nth Fs 3 = IsF _ := nth_of hFs rfl
    have F4 : nth Fs 4 = IsF _ := nth_of hFs rfl
    have F5 : nth Fs 5 = IsF _ := nth_of hFs rfl
    have F6 : nth Fs 6 = StrF _ := nth_of hFs rfl
    have F7 : nth Fs 7 = AppF 0 := nth_of hFs rfl
    have F8 : nth Fs 8 = IsF _ := nth_of hFs rfl
    have F9 : nth Fs 9 = IsF _ := nth_of hFs rfl
    have F10 : nth Fs 10 = IsF _ := nth_of hFs rfl
    have F11 : nth Fs 11 = IsF _ := nth_of hFs rfl
    have F12 : nth Fs 12 = IsF _ := nth_of hFs rfl
    have F13 : nth Fs 13 = StrF _ := nth_of hFs rfl
    have F14 : nth Fs 14 = AppF 1 := nth_of hFs rfl
    have F15 : nth Fs 15 = StrF _ := nth_of hFs rfl
    have F16 : nth Fs 16 = AppF 2 := nth_of hFs rfl
    have F17 : nth Fs 17 = AppF 2 := nth_of hFs rfl
    have hstay : AllStay RowM Fs := by rw [← hFs]; exact .cons IsF.stays (.cons IsF.stays (.cons IsF.stays (.cons IsF.stays (.cons IsF.stays (.cons IsF.stays (.cons StrF.stays (.cons AppF.stays (.cons IsF.stays (.cons IsF.stays (.cons IsF.stays (.cons IsF.stays (.cons IsF.stays (.cons StrF.stays (.cons AppF.stays (.cons StrF.stays (.cons AppF.stays (.cons AppF.stays (.nil))))))))))))))))))
    obtain ⟨Lf, hLf⟩ : ∃ f : Nat → List Lx.Bytes, (fun k => ([(([[123]] ++ Sx.fields (t.names.take m) (t.embeds.take m) (t.parts.take m)) ++ [[101, 109, 98, 101, 100]]), (([[123]] ++ Sx.fields (t.names.take m) (t.embeds.take m) (t.parts.take m)) ++ [[101, 109, 98, 101, 100]]) ++ [s], (([[123]] ++ Sx.fields (t.names.take m) (t.embeds.take m) (t.parts.take m)) ++ [[101, 109, 98, 101, 100]]) ++ [s] ++ (Sx.typ p), (([[123]] ++ Sx.fields (t.names.take m) (t.embeds.take m) (t.parts.take m)) ++ [[101, 109, 98, 101, 100]]) ++ [s] ++ (Sx.typ p) ++ [[59]]] : List (List Lx.Bytes)).getD k []) = f := ⟨_, rfl⟩
    have L0 : Lf 0 = (([[123]] ++ Sx.fields (t.names.take m) (t.embeds.take m) (t.parts.take m)) ++ [[101, 109, 98, 101, 100]]) := by rw [← hLf]; rfl
    have L1 : Lf 1 = (([[123]] ++ Sx.fields (t.names.take m) (t.embeds.take m) (t.parts.take m)) ++ [[101, 109, 98, 101, 100]]) ++ [s] := by rw [← hLf]; rfl
    have L2 : Lf 2 = (([[123]] ++ Sx.fields (t.names.take m) (t.embeds.take m) (t.parts.take m)) ++ [[101, 109, 98, 101, 100]]) ++ [s] ++ (Sx.typ p) := by rw [← hLf]; rfl
    have L3 : Lf 3 = (([[123]] ++ Sx.fields (t.names.take m) (t.embeds.take m) (t.parts.take m)) ++ [[101, 109, 98, 101, 100]]) ++ [s] ++ (Sx.typ p) ++ [[59]] := by rw [← hLf]; rfl
    clear hFs hLf
    refine zbaZ (by kernel_rfl) [7, 14, 16] (RowI B w2 (.slice A6 (([[123]] ++ Sx.fields (t.names.take m) (t.embeds.take m) (t.parts.take m)) ++ [[101, 109, 98, 101, 100]]).length c6) Lf) RowM Fs (.slice A6 (([[123]] ++ Sx.fields (t.names.take m) (t.embeds.take m) (t.parts.take m)) ++ [[101, 109, 98, 101, 100]]).length c6) (by kernel_rfl) (by kernel_rfl) (by kernel_rfl) (by kernel_rfl) (by kernel_rfl) hstay (n := 18) (by kernel_rfl) ⟨hB0, by rw [L0]; exact hO0, fun _ => rfl⟩ ?_ ?_
    ·refine .cons ?_ (.cons ?_ (.cons ?_ (.cons ?_ (.cons ?_ (.cons ?_ (.cons ?_ (.cons ?_ (.cons ?_ (.cons ?_ (.cons ?_ (.cons ?_ (.cons ?_ (.cons ?_ (.cons ?_ (.cons ?_ (.cons ?_ (.cons ?_ (.nil))))))))))))))))))
     ·exact OpOk.mov rfl rfl F0 RowM.rf rfl fun ρ w r k E => E.z 5 17 [16, 14, 7, 0] (by kernel_rfl)
     ·refine OpOk.val rfl rfl F1 RowM.rf fun ρ w r k E hI K hK => ?_
      have e1 : ρ (.tmp 1) = .pointer (some ⟨L, 0, none⟩) := E.n 1 (by kernel_rfl)
      obtain ⟨x0, x1, x2, x3, x4⟩ := zcZ (HBX.out w hI.1)
      rw [HK.out] at x4
      have hlz := zaZ (HBX.out w hI.1)
      go_simp
      exact hK
     ·refine OpOk.val rfl rfl F2 RowM.rf fun ρ w r k E hI K hK => ?_
      have e87 := E.e 87 1 (by kernel_rfl) F1
      obtain ⟨x0, x1, x2, x3, x4⟩ := zcZ (HBX.out w hI.1)
      rw [HK.out] at x4
      have hlz := zaZ (HBX.out w hI.1)
      go_simp
      exact hK
     ·exact OpOk.mov rfl rfl F3 RowM.rf rfl fun ρ w r k E => E.n 6 (by kernel_rfl)
     ·refine OpOk.val rfl rfl F4 RowM.rf fun ρ w r k E hI K hK => ?_
      have e88 := E.e 88 2 (by kernel_rfl) F2
      have e89 := E.e 89 3 (by kernel_rfl) F3
      obtain ⟨q0, q1⟩ := HS1.out w (HWX.out w hI.1)
      go_simp
      exact hK
     ·refine OpOk.val rfl rfl F5 RowM.rf fun ρ w r k E hI K hK => ?_
      have e90 := E.e 90 4 (by kernel_rfl) F4
      obtain ⟨q0, q1⟩ := HS1.out w (HWX.out w hI.1)
      go_simp
      exact hK
     ·refine OpOk.one rfl rfl F6 HBB.out fun ρ w r k E hI K hK => ?_
      have e91 := E.e 91 5 (by kernel_rfl) F5
      go_simp
      exact hK _ rfl
     ·exact OpOk.app0 (s := 86) (x := 92) (q0 := 0) (q := 6) rfl rfl rfl F7 L0 L1 rfl (by simp) (by (have h1 := HLEN.out; simp only [List.length_append, List.length_cons, List.length_nil] at *; omega)) HBB.out F0 (by kernel_rfl) F6 (by kernel_rfl)
     ·refine OpOk.val rfl rfl F8 RowM.rf fun ρ w r k E hI K hK => ?_
      have e1 : ρ (.tmp 1) = .pointer (some ⟨L, 0, none⟩) := E.n 1 (by kernel_rfl)
      obtain ⟨x0, x1, x2, x3, x4⟩ := zcZ (HBX.out w hI.1)
      rw [HK.out] at x4
      have hlz := zaZ (HBX.out w hI.1)
      go_simp
      exact hK
     ·refine OpOk.val rfl rfl F9 RowM.rf fun ρ w r k E hI K hK => ?_
      have e94 := E.e 94 8 (by kernel_rfl) F8
      obtain ⟨x0, x1, x2, x3, x4⟩ := zcZ (HBX.out w hI.1)
      rw [HK.out] at x4
      have hlz := zaZ (HBX.out w hI.1)
      go_simp
      exact hK
     ·exact OpOk.mov rfl rfl F10 RowM.rf rfl fun ρ w r k E => E.n 6 (by kernel_rfl)
     ·refine OpOk.val rfl rfl F11 RowM.rf fun ρ w r k E hI K hK => ?_
      have e95 := E.e 95 9 (by kernel_rfl) F9
      have e96 := E.e 96 10 (by kernel_rfl) F10
      have hcc := HC5.out w (HWX.out w hI.1)
      have hg := hcc.1
      have c0 := hcc.2.1
      have c1 := hcc.2.2.1
      have c2 := hcc.2.2.2.1
      have c3 := hcc.2.2.2.2.1
      have c4 := hcc.2.2.2.2.2
      clear hcc
      go_simp
      exact hK
     ·refine OpOk.val rfl rfl F12 RowM.rf fun ρ w r k E hI K hK => ?_
      have e97 := E.e 97 11 (by kernel_rfl) F11
      have hcc := HC5.out w (HWX.out w hI.1)
      have hg := hcc.1
      have c0 := hcc.2.1
      have c1 := hcc.2.2.1
      have c2 := hcc.2.2.2.1
      have c3 := hcc.2.2.2.2.1
      have c4 := hcc.2.2.2.2.2
      clear hcc
      go_simp
      exact hK
     ·exact OpOk.call (args := #[.agg #[.int .i64 p.kind, .string ⟨p.name.toArray⟩, .slice An1 p.names.length cn1, .slice Ae1 p.embeds.length ce1, .slice Aq p.parts.length cq]]) rfl rfl F13 HBB.out rfl Tryz.func28 (by kernel_rfl) rfl (fun ρ w r k E => by simp only [List.map_toArray, List.map_cons, List.map_nil, E.e 98 12 (by kernel_rfl) F12]) fun w hb => HIH.out p HPP.out.1 HPP.out.2.1 _ w (IsTy.below (HWX.out w hb) _ _ HTY.out)
     ·exact OpOk.appN (j := 0) (s := 93) (x := 99) (p := 7) (q := 13) rfl rfl rfl F14 L1 L2 rfl (by exact HPP.out.2.2) (by (have h1 := HLEN.out; simp only [List.length_append, List.length_cons, List.length_nil] at *; omega)) HBB.out F7 (by kernel_rfl) F13 (by kernel_rfl)
     ·refine OpOk.one rfl rfl F15 HBB.out fun ρ w r k E hI K hK => ?_
      have c := E.c
      go_simp
      exact hK _ rfl
     ·exact OpOk.appN (j := 1) (s := 100) (x := 101) (p := 14) (q := 15) rfl rfl rfl F16 L2 L3 rfl (by simp) (by (have h1 := HLEN.out; simp only [List.length_append, List.length_cons, List.length_nil] at *; omega)) HBB.out F14 (by kernel_rfl) F15 (by kernel_rfl)
     ·exact OpOk.asg rfl rfl F17 F16 rfl (by kernel_rfl)
    ·intro uq wq rq hI hF
     have f17 : uq 17 = rq := ((of_nth F17 (hF 17 (by decide))).2 rfl).symm
     have hBz := hI.1
     have hOz := hI.2.1
     rw [show ([7, 14, 16] : List Nat).length = 3 from rfl, L3] at hOz
     simp only [List.toList_toArray, fillAct, Act.put, List.setIfInBounds_toArray, List.set_cons_zero, List.set_cons_succ, f17]
     clear hI hF F0 F1 F2 F3 F4 F5 F6 F7 F8 F9 F10 F11 F12 F13 F14 F15 F16 F17 hstay L0 L1 L2 L3
     obtain ⟨A9, c9, rfl⟩ := hOz.slice
     have HOZ := Lib.hid hOz
     have HBZ := Lib.hid hBz
     clear hOz hBz
     go_wp2_with fail
     go_roundg (k - (m + 1))
     case measure => have := HI.out; omega
     case rel => exact ⟨m + 1, A9, _, c9, rfl, rfl, by simp, hlt, by rw [HPT.out]; simpa [List.append_assoc] using HOZ.out, HBZ.out⟩
   | false =>
    go_wp2_with fail
    clear z0 z1
    have hB0 : Below B w2 wr.drew := HBW.out.drew
    have hO0 : OwnS wr.drew B (.slice A5 n5 c5) ([[123]] ++ Sx.fields (t.names.take m) (t.embeds.take m) (t.parts.take m)) := HO.out
    clear x0 x1 x2 x3 x4 hlr
    obtain ⟨Fs, hFs⟩ : ∃ F : List (Value → World → Value → Nat → Prop), [IsF (.slice A5 n5 c5), IsF (.pointer (some ⟨L, 2, none⟩)), IsF (.slice (some ⟨g1, off1, none⟩) t.names.length cn), IsF (.int .i64 (m : Int)), IsF (.pointer (some ⟨g1, off1 + m, none⟩)), IsF (.string ⟨s.toArray⟩), StrF [s], AppF 0, IsF (.pointer (some ⟨L, 4, none⟩)), IsF (.slice (some ⟨g, off, none⟩) k cp), IsF (.int .i64 (m : Int)), IsF (.pointer (some ⟨g, off + m * 5, none⟩)), IsF (.agg #[.int .i64 p.kind, .string ⟨p.name.toArray⟩, .slice An1 p.names.length cn1, .slice Ae1 p.embeds.length ce1, .slice Aq p.parts.length cq]), StrF (Sx.typ p), AppF 1, StrF [[59]], AppF 2, AppF 2] = F := ⟨_, rfl⟩
    have F0 : nth Fs 0 = IsF _ := nth_of hFs rfl
    have F1 : nth Fs 1 = IsF _ := nth_of hFs rfl
    have F2 : nth Fs 2 = IsF _ := nth_of hFs rfl
    have F3 : nth Fs 3 = IsF _ := nth_of hFs rfl
    have F4 : nth Fs 4 = IsF _ := nth_of hFs rfl
    have F5 : nth Fs 5 = IsF _ := nth_of hFs rfl
    have F6 : nth Fs 6 = StrF _ := nth_of hFs rfl
    have F7 : nth Fs 7 = AppF 0 := nth_of hFs rfl
    have F8 : nth Fs 8 = IsF _ := nth_of hFs rfl
    have F9 : nth Fs 9 = IsF _ := nth_of hFs rfl
    have F10 : nth Fs 10 = IsF _ := nth_of hFs rfl
    have F11 : nth Fs 11 = IsF _ := nth_of hFs rfl
    have F12 : nth Fs 12 = IsF _ := nth_of hFs rfl
    have F13 : nth Fs 13 = StrF _ := nth_of hFs rfl
    have F14 : nth Fs 14 = AppF 1 := nth_of hFs rfl
    have F15 : nth Fs 15 = StrF _ := nth_of hFs rfl
    have F16 : nth Fs 16 = AppF 2 := nth_of hFs rfl
    have F17 : nth Fs 17 = AppF 2 := nth_of hFs rfl
    have hstay : AllStay RowM Fs := by rw [← hFs]; exact .cons IsF.stays (.cons IsF.stays (.cons IsF.stays (.cons IsF.stays (.cons IsF.stays (.cons IsF.stays (.cons StrF.stays (.cons AppF.stays (.cons IsF.stays (.cons IsF.stays (.cons IsF.stays (.cons IsF.stays (.cons IsF.stays (.cons StrF.stays (.cons AppF.stays (.cons StrF.stays (.cons AppF.stays (.cons AppF.stays (.nil))))))))))))))))))
    obtain ⟨Lf, hLf⟩ : ∃ f : Nat → List Lx.Bytes, (fun k => ([([[123]] ++ Sx.fields (t.names.take m) (t.embeds.take m) (t.parts.take m)), ([[123]] ++ Sx.fields (t.names.take m) (t.embeds.take m) (t.parts.take m)) ++ [s], ([[123]] ++ Sx.fields (t.names.take m) (t.embeds.take m) (t.parts.take m)) ++ [s] ++ (Sx.typ p), ([[123]] ++ Sx.fields (t.names.take m) (t.embeds.take m) (t.parts.take m)) ++ [s] ++ (Sx.typ p) ++ [[59]]] : List (List Lx.Bytes)).getD k []) = f := ⟨_, rfl⟩
    have L0 : Lf 0 = ([[123]] ++ Sx.fields (t.names.take m) (t.embeds.take m) (t.parts.take m)) := by rw [← hLf]; rfl
    have L1 : Lf 1 = ([[123]] ++ Sx.fields (t.names.take m) (t.embeds.take m) (t.parts.take m)) ++ [s] := by rw [← hLf]; rfl
    have L2 : Lf 2 = ([[123]] ++ Sx.fields (t.names.take m) (t.embeds.take m) (t.parts.take m)) ++ [s] ++ (Sx.typ p) := by rw [← hLf]; rfl
    have L3 : Lf 3 = ([[123]] ++ Sx.fields (t.names.take m) (t.embeds.take m) (t.parts.take m)) ++ [s] ++ (Sx.typ p) ++ [[59]] := by rw [← hLf]; rfl
    clear hFs hLf
    refine zbaZ (by kernel_rfl) [7, 14, 16] (RowI B w2 (.slice A5 n5 c5) Lf) RowM Fs (.slice A5 n5 c5) (by kernel_rfl) (by kernel_rfl) (by kernel_rfl) (by kernel_rfl) (by kernel_rfl) hstay (n := 18) (by kernel_rfl) ⟨hB0, by rw [L0]; exact hO0, fun _ => rfl⟩ ?_ ?_
    ·refine .cons ?_ (.cons ?_ (.cons ?_ (.cons ?_ (.cons ?_ (.cons ?_ (.cons ?_ (.cons ?_ (.cons ?_ (.cons ?_ (.cons ?_ (.cons ?_ (.cons ?_ (.cons ?_ (.cons ?_ (.cons ?_ (.cons ?_ (.cons ?_ (.nil))))))))))))))))))
     ·exact OpOk.mov rfl rfl F0 RowM.rf rfl fun ρ w r k E => E.z 5 17 [16, 14, 7, 0] (by kernel_rfl)
     ·refine OpOk.val rfl rfl F1 RowM.rf fun ρ w r k E hI K hK => ?_
      have e1 : ρ (.tmp 1) = .pointer (some ⟨L, 0, none⟩) := E.n 1 (by kernel_rfl)
      obtain ⟨x0, x1, x2, x3, x4⟩ := zcZ (HBX.out w hI.1)
      rw [HK.out] at x4
      have hlz := zaZ (HBX.out w hI.1)
      go_simp
      exact hK
     ·refine OpOk.val rfl rfl F2 RowM.rf fun ρ w r k E hI K hK => ?_
      have e87 := E.e 87 1 (by kernel_rfl) F1
      obtain ⟨x0, x1, x2, x3, x4⟩ := zcZ (HBX.out w hI.1)
      rw [HK.out] at x4
      have hlz := zaZ (HBX.out w hI.1)
      go_simp
      exact hK
     ·exact OpOk.mov rfl rfl F3 RowM.rf rfl fun ρ w r k E => E.n 6 (by kernel_rfl)
     ·refine OpOk.val rfl rfl F4 RowM.rf fun ρ w r k E hI K hK => ?_
      have e88 := E.e 88 2 (by kernel_rfl) F2
      have e89 := E.e 89 3 (by kernel_rfl) F3
      obtain ⟨q0, q1⟩ := HS1.out w (HWX.out w hI.1)
      go_simp
      exact hK
     ·refine OpOk.val rfl rfl F5 RowM.rf fun ρ w r k E hI K hK => ?_
      have e90 := E.e 90 4 (by kernel_rfl) F4
      obtain ⟨q0, q1⟩ := HS1.out w (HWX.out w hI.1)
      go_simp
      exact hK
     ·refine OpOk.one rfl rfl F6 HBB.out fun ρ w r k E hI K hK => ?_
      have e91 := E.e 91 5 (by kernel_rfl) F5
      go_simp
      exact hK _ rfl
     ·exact OpOk.app0 (s := 86) (x := 92) (q0 := 0) (q := 6) rfl rfl rfl F7 L0 L1 rfl (by simp) (by (have h1 := HLEN.out; simp only [List.length_append, List.length_cons, List.length_nil] at *; omega)) HBB.out F0 (by kernel_rfl) F6 (by kernel_rfl)
     ·refine OpOk.val rfl rfl F8 RowM.rf fun ρ w r k E hI K hK => ?_
      have e1 : ρ (.tmp 1) = .pointer (some ⟨L, 0, none⟩) := E.n 1 (by kernel_rfl)
      obtain ⟨x0, x1, x2, x3, x4⟩ := zcZ (HBX.out w hI.1)
      rw [HK.out] at x4
      have hlz := zaZ (HBX.out w hI.1)
      go_simp
      exact hK
     ·refine OpOk.val rfl rfl F9 RowM.rf fun ρ w r k E hI K hK => ?_
      have e94 := E.e 94 8 (by kernel_rfl) F8
      obtain ⟨x0, x1, x2, x3, x4⟩ := zcZ (HBX.out w hI.1)
      rw [HK.out] at x4
      have hlz := zaZ (HBX.out w hI.1)
      go_simp
      exact hK
     ·exact OpOk.mov rfl rfl F10 RowM.rf rfl fun ρ w r k E => E.n 6 (by kernel_rfl)
     ·refine OpOk.val rfl rfl F11 RowM.rf fun ρ w r k E hI K hK => ?_
      have e95 := E.e 95 9 (by kernel_rfl) F9
      have e96 := E.e 96 10 (by kernel_rfl) F10
      have hcc := HC5.out w (HWX.out w hI.1)
      have hg := hcc.1
      have c0 := hcc.2.1
      have c1 := hcc.2.2.1
      have c2 := hcc.2.2.2.1
      have c3 := hcc.2.2.2.2.1
      have c4 := hcc.2.2.2.2.2
      clear hcc
      go_simp
      exact hK
     ·refine OpOk.val rfl rfl F12 RowM.rf fun ρ w r k E hI K hK => ?_
      have e97 := E.e 97 11 (by kernel_rfl) F11
      have hcc := HC5.out w (HWX.out w hI.1)
      have hg := hcc.1
      have c0 := hcc.2.1
      have c1 := hcc.2.2.1
      have c2 := hcc.2.2.2.1
      have c3 := hcc.2.2.2.2.1
      have c4 := hcc.2.2.2.2.2
      clear hcc
      go_simp
      exact hK
     ·exact OpOk.call (args := #[.agg #[.int .i64 p.kind, .string ⟨p.name.toArray⟩, .slice An1 p.names.length cn1, .slice Ae1 p.embeds.length ce1, .slice Aq p.parts.length cq]]) rfl rfl F13 HBB.out rfl Tryz.func28 (by kernel_rfl) rfl (fun ρ w r k E => by simp only [List.map_toArray, List.map_cons, List.map_nil, E.e 98 12 (by kernel_rfl) F12]) fun w hb => HIH.out p HPP.out.1 HPP.out.2.1 _ w (IsTy.below (HWX.out w hb) _ _ HTY.out)
     ·exact OpOk.appN (j := 0) (s := 93) (x := 99) (p := 7) (q := 13) rfl rfl rfl F14 L1 L2 rfl (by exact HPP.out.2.2) (by (have h1 := HLEN.out; simp only [List.length_append, List.length_cons, List.length_nil] at *; omega)) HBB.out F7 (by kernel_rfl) F13 (by kernel_rfl)
     ·refine OpOk.one rfl rfl F15 HBB.out fun ρ w r k E hI K hK => ?_
      have c := E.c
      go_simp
      exact hK _ rfl
     ·exact OpOk.appN (j := 1) (s := 100) (x := 101) (p := 14) (q := 15) rfl rfl rfl F16 L2 L3 rfl (by simp) (by (have h1 := HLEN.out; simp only [List.length_append, List.length_cons, List.length_nil] at *; omega)) HBB.out F14 (by kernel_rfl) F15 (by kernel_rfl)
     ·exact OpOk.asg rfl rfl F17 F16 rfl (by kernel_rfl)
    ·intro uq wq rq hI hF
     have f17 : uq 17 = rq := ((of_nth F17 (hF 17 (by decide))).2 rfl).symm
     have hBz := hI.1
     have hOz := hI.2.1
     rw [show ([7, 14, 16] : List Nat).length = 3 from rfl, L3] at hOz
     simp only [List.toList_toArray, fillAct, Act.put, List.setIfInBounds_toArray, List.set_cons_zero, List.set_cons_succ, f17]
     clear hI hF F0 F1 F2 F3 F4 F5 F6 F7 F8 F9 F10 F11 F12 F13 F14 F15 F16 F17 hstay L0 L1 L2 L3
     obtain ⟨A9, c9, rfl⟩ := hOz.slice
     have HOZ := Lib.hid hOz
     have HBZ := Lib.hid hBz
     clear hOz hBz
     go_wp2_with fail
     go_roundg (k - (m + 1))
     case measure => have := HI.out; omega
     case rel => exact ⟨m + 1, A9, _, c9, rfl, rfl, by simp, hlt, by rw [HPT.out]; simpa [List.append_assoc] using HOZ.out, HBZ.out⟩
  ·have hmi : ¬ (m : Int) < (k : Int) := by omega
   have hlast : Sx.fields (t.names.take m) (t.embeds.take m) (t.parts.take m) = Sx.fields t.names t.embeds t.parts := by
    rw [List.take_of_length_le (show t.names.length ≤ m by have := HK.out; have := HNS.out; omega), List.take_of_length_le (show t.embeds.length ≤ m by have := HK.out; have := HES.out; omega), List.take_of_length_le (show t.parts.length ≤ m by have := HK.out; omega)]
   have HLA := Lib.hid hlast
   have HLEN := Lib.hid (show ([[123]] ++ Sx.fields (t.names.take m) (t.embeds.take m) (t.parts.take m)).length ≤ 50000000 by
    have h1 := Sx.fields_len (t.names.take m) (t.embeds.take m) (t.parts.take m)
    have h2 := Sx.sizeL_take_le t.parts m
    have h4 := HSL.out
    simp only [List.length_append, List.length_cons, List.length_nil]
    omega)
   clear hlast
   obtain ⟨wa, hwa⟩ : ∃ wa, wr.alloc (.cells #[.string ⟨#[125]⟩] 9) = wa := ⟨_, rfl⟩
   have hoa : OwnS wa B (.slice A5 n5 c5) ([[123]] ++ Sx.fields (t.names.take m) (t.embeds.take m) (t.parts.take m)) := by rw [← hwa]; exact HO.out.below ((Below.refl _ _).alloc (Nat.le_refl _) _)
   have hba : Below B w2 wa := by rw [← hwa]; exact HBW.out.alloc (Nat.le_trans HBB.out HBW.out.size) _
   have hsa : Str wa (.slice (some ⟨wr.heap.size, 0, none⟩) 1 1) [[125]] (.slice A5 n5 c5) := by rw [← hwa]; exact Str.one (heap_alloc_new wr _) (fun q hq => (HO.out.lt q hq).2)
   have HOA := Lib.hid hoa
   have HBA := Lib.hid hba
   have HSA := Lib.hid hsa
   clear hoa hba hsa
   go_wp2_with (at_builtin; refine zlZ rfl _ _ rfl rfl rfl HOA.out HSA.out (by decide) (by have := HLEN.out; simp only [List.length_append, List.length_cons, List.length_nil] at *; omega) (Nat.le_trans HBB.out HBA.out.size) ?_; intro r5 w5 hO5 hmv; have hB5 := belowMv HBA.out (Nat.le_trans HBB.out HBA.out.size) hmv (fun g hg => (HOA.out.lt g hg).1); have HO5 := Lib.hid hO5; have HB5 := Lib.hid hB5; clear hO5 hB5 hmv)
   go_ret
   subst hL
   exact ⟨_, rfl, by rw [HT.out, ← HLA.out]; exact HO5.out.base_le HWB.out, HWX.out _ HB5.out⟩
theorem zmyZ : ∀ n : Nat, n ≤ 1000000 → TypedOk n := by
 intro n
 induction n with
 | zero => intro _ t h; have := Sx.size_pos t; omega
 | succ n ih =>
  intro hn t hsz hr v W ht
  have ih := ih (by omega)
  obtain ⟨d, hd⟩ := id hr
  obtain ⟨d', -, -, hsh⟩ := Sx.right_parts hd
  rcases Sx.shape_kind hsh with hk | hk | hk | hk | hk | hk | hk | hk
  ·exact typed1 n hn ih t hsz hr hk v W ht
  ·exact typed2 n hn ih t hsz hr hk v W ht
  ·exact typed3 n hn ih t hsz hr hk v W ht
  ·exact typed4 n hn ih t hsz hr hk v W ht
  ·exact typed5 n hn ih t hsz hr hk v W ht
  ·exact typed6 n hn ih t hsz hr hk v W ht
  ·exact typed7 n hn ih t hsz hr hk v W ht
  ·exact typed8 n hn ih t hsz hr hk v W ht
end Go.Proofs.YtdncljdfmdgdaaaGreatDoor
