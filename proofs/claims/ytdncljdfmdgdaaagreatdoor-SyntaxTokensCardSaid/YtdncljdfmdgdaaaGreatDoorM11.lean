/-
  What an argument of chapter 2 is, out of the row's condition: types.
  The walks of coilref2.Nodes, Depth.
  The walk of syntax.Names.
  The walk of coilref2.Names.
  The walk of coilkeep.Own.
  coilbook.Same at texts; the two lists of words.
-/
import Derived.Test.YtdncljdfmdgdaaaGreatDoorM8
import Derived.Test.YtdncljdfmdgdaaaGreatDoorM10
import Derived.Deep.RegionHeld3
import Derived.Test.YtdncljdfmdgdaaaGreatDoorM6
namespace Go.Proofs.YtdncljdfmdgdaaaGreatDoor
open Go.ChangeShapes Go.WideShapes Go.ChangeAt Go.RowKit
set_option linter.unusedSimpArgs false
set_option linter.unusedVariables false

/-- Every string, every slice in it has room in any memory. -/
def Fit {H : Type} (P : Program) (t : TypeId) (d : DataW H) : Prop := ∀ n ∈ d.weights P t, n ≤ reachBytes
theorem Fit.each {H : Type} {P : Program} : ∀ {ts : List TypeId} {ds : List (DataW H)} {i : Nat} {t : TypeId} {d : DataW H}, (∀ n ∈ DataW.weightsEach P ts ds, n ≤ reachBytes) → ts[i]? = some t → ds[i]? = some d → Fit P t d
  | [], ds, i, t, d, h, h1, h2 => by simp at h1
  | t :: ts, [], i, u, d, h, h1, h2 => by simp at h2
  | t :: ts, d :: ds, 0, u, e, h, h1, h2 => by
    simp at h1 h2
    subst h1 h2
    rw [DataW.weightsEach] at h
    exact fun n hn => h n (List.mem_append_left _ hn)
  | t :: ts, d :: ds, i + 1, u, e, h, h1, h2 => by
    rw [DataW.weightsEach] at h
    exact Fit.each (fun n hn => h n (List.mem_append_right _ hn)) (by simpa using h1) (by simpa using h2)
theorem Fit.all {H : Type} {P : Program} {t : TypeId} : ∀ {ds : List (DataW H)} {i : Nat} {d : DataW H}, (∀ n ∈ DataW.weightsAll P t ds, n ≤ reachBytes) → ds[i]? = some d → Fit P t d
  | [], i, d, h, h2 => by simp at h2
  | d :: ds, 0, e, h, h2 => by
    simp at h2
    subst h2
    rw [DataW.weightsAll] at h
    exact fun n hn => h n (List.mem_append_left _ hn)
  | d :: ds, i + 1, e, h, h2 => by
    rw [DataW.weightsAll] at h
    exact Fit.all (fun n hn => h n (List.mem_append_right _ hn)) (by simpa using h2)

section
variable {H : Type} {enc : TypeId × Value → H} {P : Program} {W : World} {sp : Nat → Bool} {held : Bool}

theorem trod_field {t ty : TypeId} {off : Nat} (i : Nat) {fuel : Nat} {cs : List Value} {x : DataW H × List MemPlace} (hu : P.underlying t = some (.struct (P.fieldsOf t))) (hi : (P.fieldsOf t)[i]?.map (fun f => (f.type, f.offset)) = some (ty, off))
    (h : DataW.trod enc P W 0 sp held fuel t cs = some x) (hf : Fit P t x.1) :
    ∃ n y, n < fuel ∧ DataW.trod enc P W 0 sp held n ty ((cs.drop off).take (P.cellsOf ty)) = some y ∧ Fit P ty y.1 := by
  obtain ⟨xs, n, rfl, rfl, hl, hlen, hfs⟩ := DataW.trod_struct hu h
  obtain ⟨f, hfi, he⟩ := Option.map_eq_some_iff.1 hi
  injection he with e1 e2
  have h1 := hfs i f hfi
  rw [e1, e2] at h1
  have hil : i < xs.length := by rw [hlen]; exact (Array.getElem?_eq_some_iff.1 hfi).1
  rw [List.getElem?_eq_getElem hil] at h1
  refine ⟨n, _, Nat.lt_succ_self n, h1, ?_⟩
  unfold Fit at hf
  simp only [DataW.weights, hu] at hf
  exact Fit.each (i := i) hf (by rw [List.getElem?_map, Array.getElem?_toList, hfi, ← e1]; rfl) (by rw [List.getElem?_map, List.getElem?_eq_getElem hil]; rfl)
theorem trod_length {t : TypeId} {fuel : Nat} {cs : List Value} {x : DataW H × List MemPlace} (hu : P.underlying t = some (.struct (P.fieldsOf t))) (h : DataW.trod enc P W 0 sp held fuel t cs = some x) : cs.length = P.cellsOf t := by
  obtain ⟨xs, n, rfl, rfl, hl, hlen, hfs⟩ := DataW.trod_struct hu h
  exact hl
theorem cells_get {a : Addr} {n : Nat} {cs : List Value} (h : W.cells? 0 a n = some cs) : cs.length = n ∧ ∀ j, j < n → W.cell? (a.add j) = cs[j]? := by
  unfold World.cells? at h
  rw [if_pos (Nat.zero_le _)] at h
  refine ⟨by simpa using mapM_some_length h, fun j hj => mapM_some_get h j j (by simp [hj])⟩
theorem trod_row {t e : TypeId} {c fuel : Nat} {v : Value} {x : DataW H × List MemPlace} (hu : P.underlying t = some (.slice e)) (hc : P.cellsOf e = c) (hc1 : 0 < c) (hb : 1 ≤ P.bytesOf e)
    (h : DataW.trod enc P W 0 sp held fuel t [v] = some x) (hf : Fit P t x.1) :
    ∃ a len cap, v = .slice a len cap ∧ len ≤ cap ∧ len ≤ reachBytes ∧ ∀ i, i < len → ∃ g off cs n y, a = some ⟨g, off, none⟩ ∧ n < fuel ∧ cs.length = c ∧ (∀ j, j < c → W.cell? ⟨g, off + i * c + j, none⟩ = cs[j]?) ∧
      DataW.trod enc P W 0 sp held n e cs = some y ∧ Fit P e y.1 := by
  rcases DataW.trod_slice hu h with ⟨hcs, _⟩ | ⟨a, len', cap', elems, rest, n, rfl, hcs, rfl, _, hlc, hcm, hlen, hel, _⟩
  · injection hcs with hcs _
    exact ⟨none, 0, 0, hcs, Nat.le_refl _, Nat.zero_le _, fun i hi => by omega⟩
  · injection hcs with hcs _
    subst hcs
    unfold Fit at hf
    simp only [DataW.weights, hu] at hf
    refine ⟨some a, len', cap', rfl, hlc, ?_, fun i hi => ?_⟩
    · have := hf _ (List.mem_cons_self)
      simp only [List.length_map] at this
      have h2 := Nat.le_mul_of_pos_right (elems.length + rest.length) hb
      omega
    · have he := hel i hi
      rw [List.getElem?_eq_getElem (by omega)] at he
      obtain ⟨cs, hcc, ht⟩ := Option.bind_eq_some_iff.1 he
      rw [hc] at hcc
      obtain ⟨hl, hg⟩ := cells_get hcc
      have he0 := hel 0 (by omega)
      rw [List.getElem?_eq_getElem (show 0 < elems.length by omega)] at he0
      obtain ⟨cs0, hcc0, -⟩ := Option.bind_eq_some_iff.1 he0
      rw [hc] at hcc0
      obtain ⟨hl0, hg0⟩ := cells_get hcc0
      obtain ⟨b, off, spot⟩ := a
      have h0 := hg0 0 hc1
      rw [List.getElem?_eq_getElem (show 0 < cs0.length by omega)] at h0
      have hspot : spot = none := by simpa [Addr.add] using World.cell?_spot h0
      subst hspot
      refine ⟨b, off, cs, n, _, rfl, Nat.lt_succ_self n, hl, fun j hj => ?_, ht, ?_⟩
      · have := hg j hj
        rw [add_none, add_none] at this
        exact this
      · exact Fit.all (i := i) (fun m hm => hf m (List.mem_cons_of_mem _ (List.mem_append_left _ hm))) (by rw [List.getElem?_map, List.getElem?_eq_getElem (by omega)]; rfl)
theorem trod_str {t : TypeId} {fuel : Nat} {v : Value} {x : DataW H × List MemPlace} (hu : P.underlying t = some .string) (h : DataW.trod enc P W 0 sp held fuel t [v] = some x) (hf : Fit P t x.1) :
    ∃ s : Lx.Bytes, v = .string ⟨s.toArray⟩ ∧ s.length ≤ reachBytes := by
  obtain ⟨s, e, hx, _⟩ := DataW.trod_string hu h
  subst hx
  injection e with e
  refine ⟨s.data.toList, by rw [mk_back]; exact e, ?_⟩
  have := hf s.data.toList.length (by simp [DataW.weights])
  exact this
end

theorem list_five {l : List Value} (h : l.length = 5) : ∃ a b c d e, l = [a, b, c, d, e] := by
  match l, h with
  | [a, b, c, d, e], _ => exact ⟨a, b, c, d, e, rfl⟩
theorem list_one {l : List Value} (h : l.length = 1) : ∃ a, l = [a] := by
  match l, h with
  | [a], _ => exact ⟨a, rfl⟩

theorem uTy : Tryz.prog.underlying 26 = some (.struct (Tryz.prog.fieldsOf 26)) := by kernel_rfl
theorem cTy : Tryz.prog.cellsOf 26 = 5 := by kernel_rfl
theorem bTy : 1 ≤ Tryz.prog.bytesOf 26 := of_decide_eq_true (by kernel_rfl)
theorem bStr : 1 ≤ Tryz.prog.bytesOf 9 := of_decide_eq_true (by kernel_rfl)
theorem bBool : 1 ≤ Tryz.prog.bytesOf 4 := of_decide_eq_true (by kernel_rfl)
theorem cBool : Tryz.prog.cellsOf 4 = 1 := by kernel_rfl
theorem cSls : Tryz.prog.cellsOf 22 = 1 := by kernel_rfl
theorem cSlb : Tryz.prog.cellsOf 23 = 1 := by kernel_rfl
theorem cSlt : Tryz.prog.cellsOf 24 = 1 := by kernel_rfl
theorem uSls : Tryz.prog.underlying 22 = some (.slice 9) := by kernel_rfl
theorem uSlb : Tryz.prog.underlying 23 = some (.slice 4) := by kernel_rfl
theorem uSlt : Tryz.prog.underlying 24 = some (.slice 26) := by kernel_rfl
theorem uBool : Tryz.prog.underlying 4 = some .bool := by kernel_rfl
theorem fTy0 : (Tryz.prog.fieldsOf 26)[0]?.map (fun f => (f.type, f.offset)) = some (3, 0) := by kernel_rfl
theorem fTy1 : (Tryz.prog.fieldsOf 26)[1]?.map (fun f => (f.type, f.offset)) = some (9, 1) := by kernel_rfl
theorem fTy2 : (Tryz.prog.fieldsOf 26)[2]?.map (fun f => (f.type, f.offset)) = some (22, 2) := by kernel_rfl
theorem fTy3 : (Tryz.prog.fieldsOf 26)[3]?.map (fun f => (f.type, f.offset)) = some (23, 3) := by kernel_rfl
theorem fTy4 : (Tryz.prog.fieldsOf 26)[4]?.map (fun f => (f.type, f.offset)) = some (24, 4) := by kernel_rfl

section
variable {H : Type} {enc : TypeId × Value → H} {W : World} {sp : Nat → Bool} {held : Bool}

theorem strs_of_trod {fuel : Nat} {v : Value} {x : DataW H × List MemPlace} (h : DataW.trod enc Tryz.prog W 0 sp held fuel 22 [v] = some x) (hf : Fit Tryz.prog 22 x.1) :
    ∃ ns, StrRow W v ns ∧ ns.length ≤ reachBytes ∧ ∀ s ∈ ns, s.length ≤ reachBytes := by
  obtain ⟨a, len, cap, rfl, hlc, hlr, hi⟩ := trod_row uSls cS Nat.one_pos bStr h hf
  have key : ∀ i, i < len → ∃ s : Lx.Bytes, (∃ g off, a = some ⟨g, off, none⟩ ∧ W.cell? ⟨g, off + i, none⟩ = some (.string ⟨s.toArray⟩)) ∧ s.length ≤ reachBytes := by
    intro i hil
    obtain ⟨g, off, cs, n, y, rfl, _, hl, hc, ht, hfy⟩ := hi i hil
    obtain ⟨u, rfl⟩ := list_one hl
    obtain ⟨s, rfl, hs⟩ := trod_str Tryz.underlying9 ht hfy
    exact ⟨s, ⟨g, off, rfl, by simpa using hc 0 Nat.one_pos⟩, hs⟩
  obtain ⟨ns, hl, hp⟩ := list_of_all len key
  refine ⟨ns, ⟨a, cap, by rw [hl], fun i h => (hp i h).1⟩, by omega, fun s hs => ?_⟩
  obtain ⟨i, hi, rfl⟩ := List.getElem_of_mem hs
  exact (hp i hi).2
theorem bools_of_trod {fuel : Nat} {v : Value} {x : DataW H × List MemPlace} (h : DataW.trod enc Tryz.prog W 0 sp held fuel 23 [v] = some x) (hf : Fit Tryz.prog 23 x.1) :
    ∃ es, BoolRow W v es ∧ es.length ≤ reachBytes := by
  obtain ⟨a, len, cap, rfl, hlc, hlr, hi⟩ := trod_row uSlb cBool Nat.one_pos bBool h hf
  have key : ∀ i, i < len → ∃ s : Bool, (∃ g off, a = some ⟨g, off, none⟩ ∧ W.cell? ⟨g, off + i, none⟩ = some (.bool s)) := by
    intro i hil
    obtain ⟨g, off, cs, n, y, rfl, _, hl, hc, ht, hfy⟩ := hi i hil
    obtain ⟨u, rfl⟩ := list_one hl
    obtain ⟨s, e, _⟩ := DataW.trod_bool uBool ht
    injection e with e
    subst e
    exact ⟨s, g, off, rfl, by simpa using hc 0 Nat.one_pos⟩
  obtain ⟨ns, hl, hp⟩ := list_of_all len key
  exact ⟨ns, ⟨a, cap, by rw [hl], fun i h => hp i h⟩, by omega⟩

/-- A type read off five cells. -/
def TyRead (W : World) (cs : List Value) : Prop := ∃ v0 v1 v2 v3 v4 t, cs = [v0, v1, v2, v3, v4] ∧ IsTy W (.agg #[v0, v1, v2, v3, v4]) t ∧ Sx.fits t
theorem fitsL_of : ∀ {l : List Sx.Ty}, (∀ t ∈ l, Sx.fits t) → Sx.fitsL l
  | [], h => by rw [Sx.fitsL]; trivial
  | t :: l, h => by
    rw [Sx.fitsL]
    exact ⟨h t List.mem_cons_self, fitsL_of fun u hu => h u (List.mem_cons_of_mem _ hu)⟩
theorem tys_of_trod {fuel : Nat} (ih : ∀ n, n < fuel → ∀ cs x, DataW.trod enc Tryz.prog W 0 sp held n 26 cs = some x → Fit Tryz.prog 26 x.1 → TyRead W cs)
    {v : Value} {x : DataW H × List MemPlace} (h : DataW.trod enc Tryz.prog W 0 sp held fuel 24 [v] = some x) (hf : Fit Tryz.prog 24 x.1) :
    ∃ l, TyRow W v l ∧ l.length ≤ reachBytes ∧ Sx.fitsL l := by
  obtain ⟨a, len, cap, rfl, hlc, hlr, hi⟩ := trod_row uSlt cTy (by decide) bTy h hf
  have key : ∀ i, i < len → ∃ t : Sx.Ty, (∃ g off v0 v1 v2 v3 v4, a = some ⟨g, off, none⟩ ∧ W.cell? ⟨g, off + (0 + i) * 5, none⟩ = some v0 ∧ W.cell? ⟨g, off + (0 + i) * 5 + 1, none⟩ = some v1 ∧
      W.cell? ⟨g, off + (0 + i) * 5 + 2, none⟩ = some v2 ∧ W.cell? ⟨g, off + (0 + i) * 5 + 3, none⟩ = some v3 ∧ W.cell? ⟨g, off + (0 + i) * 5 + 4, none⟩ = some v4 ∧ IsTy W (.agg #[v0, v1, v2, v3, v4]) t) ∧ Sx.fits t := by
    intro i hil
    obtain ⟨g, off, cs, n, y, rfl, hn, hl, hc, ht, hfy⟩ := hi i hil
    obtain ⟨v0, v1, v2, v3, v4, t, rfl, hty, hfit⟩ := ih n hn cs y ht hfy
    rw [Nat.zero_add]
    exact ⟨t, ⟨g, off, v0, v1, v2, v3, v4, rfl, hc 0 (by decide), hc 1 (by decide), hc 2 (by decide), hc 3 (by decide), hc 4 (by decide), hty⟩, hfit⟩
  obtain ⟨l, hl, hp⟩ := list_of_all len key
  refine ⟨l, ⟨a, cap, by rw [hl], by omega, IsTys.mk fun m h => (hp m h).1⟩, by omega, fitsL_of fun t ht => ?_⟩
  obtain ⟨i, hi, rfl⟩ := List.getElem_of_mem ht
  exact (hp i hi).2
set_option maxRecDepth 100000 in
theorem ty_of_trod : ∀ (fuel : Nat) (cs : List Value) (x : DataW H × List MemPlace), DataW.trod enc Tryz.prog W 0 sp held fuel 26 cs = some x → Fit Tryz.prog 26 x.1 → TyRead W cs := by
  intro fuel
  induction fuel using Nat.strongRecOn with
  | _ fuel ih =>
    intro cs x h hf
    obtain ⟨v0, v1, v2, v3, v4, rfl⟩ := list_five ((trod_length uTy h).trans cTy)
    obtain ⟨n0, y0, l0, h0, q0⟩ := trod_field 0 uTy fTy0 h hf
    obtain ⟨n1, y1, l1, h1, q1⟩ := trod_field 1 uTy fTy1 h hf
    obtain ⟨n2, y2, l2, h2, q2⟩ := trod_field 2 uTy fTy2 h hf
    obtain ⟨n3, y3, l3, h3, q3⟩ := trod_field 3 uTy fTy3 h hf
    obtain ⟨n4, y4, l4, h4, q4⟩ := trod_field 4 uTy fTy4 h hf
    rw [cI] at h0
    rw [cS] at h1
    rw [cSls] at h2
    rw [cSlb] at h3
    rw [cSlt] at h4
    simp only [List.drop_zero, List.drop_succ_cons, List.take_succ_cons, List.take_zero] at h0 h1 h2 h3 h4
    obtain ⟨k, e0, _, _⟩ := DataW.trod_int Tryz.underlying3 h0
    injection e0 with e0
    subst e0
    obtain ⟨nm, rfl, z1⟩ := trod_str Tryz.underlying9 h1 q1
    obtain ⟨ns, r2, z2, z2'⟩ := strs_of_trod h2 q2
    obtain ⟨es, r3, z3⟩ := bools_of_trod h3 q3
    obtain ⟨ps, ⟨A, c, rfl, hc, r4⟩, z4, z4'⟩ := tys_of_trod (fun n hn => ih n (by omega)) h4 q4
    refine ⟨_, _, _, _, _, .mk k nm ns es ps, rfl, ?_, ?_⟩
    · rw [IsTy]
      exact ⟨_, _, A, c, rfl, r2, r3, hc, r4⟩
    · rw [Sx.fits]
      exact ⟨z1, z2, z3, z4, z2', z4'⟩
/-- A law's argument: a type. -/
def TyArg (W : World) (v : Value) (t : Sx.Ty) : Prop := IsTy W v t ∧ Sx.fits t
set_option maxRecDepth 100000 in
theorem open_ty {base : Nat} {v : Value} {d : DataW H} {p : List MemPlace} (hval : Value.okWide Tryz.prog W .any base 26 v) (hd : DataW.Trod enc Tryz.prog W 0 sp held 26 v d p) (hf : Fit Tryz.prog 26 d) :
    ∃ t, TyArg W v t := by
  obtain ⟨cs, rfl, hsz⟩ := okWide_struct uTy hval
  obtain ⟨fuel, h⟩ := hd
  obtain ⟨v0, v1, v2, v3, v4, t, he, ht, hfit⟩ := ty_of_trod fuel _ _ h hf
  refine ⟨t, ?_, hfit⟩
  have : cs = #[v0, v1, v2, v3, v4] := by
    apply Array.toList_inj.1
    exact he
  rw [this]
  exact ht
end

end Go.Proofs.YtdncljdfmdgdaaaGreatDoor

namespace Go.Proofs.YtdncljdfmdgdaaaGreatDoor
open Go.RowKit Go.Shelf
set_option linter.unusedSimpArgs false
set_option linter.unusedVariables false

theorem retInt {a b : Int} (h : a = b) : Ending.returned (.int .i64 a) = .returned (.int .i64 b) := by rw [h]

set_option maxRecDepth 100000 in
set_option maxHeartbeats 8000000 in
theorem refNodes : ∀ (n : Nat) (t : Sx.Ty), Sx.size t ≤ n → n ≤ 1000000 → ∀ (v : Value) (W : World), IsTy W v t →
    Calls Tryz.prog 43 #[v] W fun e W' => e = .returned (.int .i64 (Sx.nodes t : Nat)) ∧ Below W.heap.size W W' := by
  intro n
  induction n with
  | zero => intro t h; have := Sx.size_pos t; omega
  | succ n ih =>
    intro t hn hn1 v W ht
    obtain ⟨An, cn, Ae, ce, Ap, cp, rfl, -, -, hp⟩ := ht.agg
    have hsp := Sx.size_parts t
    have hlen := Sx.length_size t.parts
    have hbd := Sx.nodesL_size t.parts
    have hfp := Sx.nodes_parts t
    obtain ⟨kd, hkd⟩ : ∃ kd, t.kind = kd := ⟨_, rfl⟩
    obtain ⟨k, hk⟩ : ∃ k, t.parts.length = k := ⟨_, rfl⟩
    rw [hk] at hp
    rw [hkd, hk]
    rw [hkd] at hfp
    have k0 : (0 : Int) ≤ (k : Int) := by omega
    have k1 : (k : Int) ≤ 1000000 := by omega
    have HIH := Lib.hid ih
    have HSP := Lib.hid hsp
    have HN := Lib.hid (show Sx.size t ≤ n + 1 ∧ n + 1 ≤ 1000000 from ⟨hn, hn1⟩)
    have HP := Lib.hid hp
    have HK := Lib.hid hk
    have HFP := Lib.hid hfp
    have HBD := Lib.hid hbd
    obtain ⟨L, hL⟩ : ∃ L, W.heap.size = L := ⟨_, rfl⟩
    obtain ⟨w2, hw2⟩ : ∃ w2, W.alloc (.cells #[.int .i64 kd, .string ⟨t.name.toArray⟩, .slice An t.names.length cn, .slice Ae t.embeds.length ce, .slice Ap k cp] 26) = w2 := ⟨_, rfl⟩
    have hbox : w2.heap[L]? = some (.cells #[.int .i64 kd, .string ⟨t.name.toArray⟩, .slice An t.names.length cn, .slice Ae t.embeds.length ce, .slice Ap k cp] 26 (0, 0)) := by rw [← hw2, ← hL]; exact heap_alloc_new W _
    have hb2 : Below L W w2 := by rw [← hw2, ← hL]; exact grown_below (World.grownBy_alloc W _ none)
    obtain ⟨x0, x1, x2, x3, x4⟩ := five_cells hbox
    have hl2 := lt_of_block hbox
    have HBX := Lib.hid hbox
    have HB2 := Lib.hid hb2
    have HL := Lib.hid hL
    clear ih hsp hn hn1 hp hk ht hbox hb2 hlen hbd hfp hkd
    by_cases h4 : kd = 4
    · subst h4
      go_enter Tryz.func43, Tryz.ntmps43
      go_wp2_with fail
      clear x0 x1 x2 x3 x4
      go_loopg [3, 4] k (fun i v u wr => ∃ (m q : Nat), i = k - m ∧ v = .int .i64 (q : Nat) ∧ u = .int .i64 (m : Nat) ∧ m ≤ k ∧ q = 0 + Sx.nodesL (t.parts.take m) ∧ Below L W wr ∧ wr.heap[L]? = w2.heap[L]?)
      case atStart => exact ⟨0, 0, rfl, rfl, rfl, Nat.zero_le _, by simp [Sx.nodesL], HB2.out, rfl⟩
      case round =>
        obtain ⟨m, q, hi, rfl, rfl, hm, hq, hwr, hbr⟩ := hrel
        rw [HBX.out] at hbr
        obtain ⟨x0, x1, x2, x3, x4⟩ := five_cells hbr
        have hlr := lt_of_block hbr
        have hLs : L ≤ wr.heap.size := by omega
        have hle := Sx.nodesL_take_le t.parts m
        have hqb : q ≤ 1000001 := by have := HBD.out; have := HSP.out; have := HN.out; omega
        have HI := Lib.hid hi
        have HQ := Lib.hid hq
        have HWR := Lib.hid hwr
        have HBR := Lib.hid hbr
        have m0 : (0 : Int) ≤ (m : Int) := by omega
        have q0 : (0 : Int) ≤ (q : Int) := by omega
        have q1 : (q : Int) ≤ 1000001 := by omega
        clear hi hq hwr hbr hle hqb
        by_cases hlt : m < k
        · have hmi : (m : Int) < (k : Int) := by omega
          have hmp : m < t.parts.length := by have := HK.out; omega
          obtain ⟨g, off, An1, cn1, Ae1, ce1, Aq, cq, rfl, hty, hc5⟩ := HP.out.spot m hmp
          rw [HL.out] at hc5
          obtain ⟨hg, c0, c1, c2, c3, c4⟩ := hc5 wr HWR.out
          have hst := Sx.nodes_take hmp
          have hsm := Sx.size_mem (List.getElem_mem hmp)
          obtain ⟨p, hpe⟩ : ∃ p, t.parts[m]'hmp = p := ⟨_, rfl⟩
          rw [hpe] at c0 c1 c2 c3 c4 hty hst hsm
          have hpb := Sx.nodes_size p
          have hre := HIH.out p (by have := HN.out; have := HSP.out; omega) (by have := HN.out; omega) _ wr (IsTy.below (by rw [HL.out]; exact HWR.out) _ _ hty)
          obtain ⟨z, hz⟩ : ∃ z, Sx.nodes p = z := ⟨_, rfl⟩
          rw [hz] at hst hre hpb
          have z0 : (0 : Int) ≤ (z : Int) := by omega
          have z1 : (z : Int) ≤ 1000000 := by have := HN.out; have := HSP.out; omega
          have HRE := Lib.hid hre
          have HST := Lib.hid hst
          clear hre hst hsm hpe hty hc5 hz hpb
          go_wp2_with fail
          refine HRE.out.mono ?_
          rintro e w5 ⟨rfl, hb5⟩
          go_wp2_with fail
          go_roundg (k - (m + 1))
          case measure => have := HI.out; omega
          case rel => exact ⟨m + 1, q + z, rfl, by simp, by simp, hlt, by rw [HST.out]; have := HQ.out; omega, HWR.out.trans (hb5.mono hLs), by rw [HBX.out, hb5.block L hlr, HBR.out]⟩
        · have hmi : ¬ (m : Int) < (k : Int) := by omega
          have HFU := Lib.hid (List.take_of_length_le (show t.parts.length ≤ m by have := HK.out; omega))
          go_wp2_with fail
          go_ret
          refine ⟨?_, by first | exact HWR.out | (rw [HL.out]; exact HWR.out)⟩
          have h9 := HQ.out
          rw [HFU.out] at h9
          rw [HFP.out, h9]
          simp
    · have b4 : (kd == 4) = false := by rw [beq_eq_false_iff_ne]; exact h4
      have H4 := Lib.hid h4
      clear h4
      go_enter Tryz.func43, Tryz.ntmps43
      go_wp2_with fail
      clear x0 x1 x2 x3 x4
      go_loopg [3, 4] k (fun i v u wr => ∃ (m q : Nat), i = k - m ∧ v = .int .i64 (q : Nat) ∧ u = .int .i64 (m : Nat) ∧ m ≤ k ∧ q = 1 + Sx.nodesL (t.parts.take m) ∧ Below L W wr ∧ wr.heap[L]? = w2.heap[L]?)
      case atStart => exact ⟨0, 1, rfl, rfl, rfl, Nat.zero_le _, by simp [Sx.nodesL], HB2.out, rfl⟩
      case round =>
        obtain ⟨m, q, hi, rfl, rfl, hm, hq, hwr, hbr⟩ := hrel
        rw [HBX.out] at hbr
        obtain ⟨x0, x1, x2, x3, x4⟩ := five_cells hbr
        have hlr := lt_of_block hbr
        have hLs : L ≤ wr.heap.size := by omega
        have hle := Sx.nodesL_take_le t.parts m
        have hqb : q ≤ 1000001 := by have := HBD.out; have := HSP.out; have := HN.out; omega
        have HI := Lib.hid hi
        have HQ := Lib.hid hq
        have HWR := Lib.hid hwr
        have HBR := Lib.hid hbr
        have m0 : (0 : Int) ≤ (m : Int) := by omega
        have q0 : (0 : Int) ≤ (q : Int) := by omega
        have q1 : (q : Int) ≤ 1000001 := by omega
        clear hi hq hwr hbr hle hqb
        by_cases hlt : m < k
        · have hmi : (m : Int) < (k : Int) := by omega
          have hmp : m < t.parts.length := by have := HK.out; omega
          obtain ⟨g, off, An1, cn1, Ae1, ce1, Aq, cq, rfl, hty, hc5⟩ := HP.out.spot m hmp
          rw [HL.out] at hc5
          obtain ⟨hg, c0, c1, c2, c3, c4⟩ := hc5 wr HWR.out
          have hst := Sx.nodes_take hmp
          have hsm := Sx.size_mem (List.getElem_mem hmp)
          obtain ⟨p, hpe⟩ : ∃ p, t.parts[m]'hmp = p := ⟨_, rfl⟩
          rw [hpe] at c0 c1 c2 c3 c4 hty hst hsm
          have hpb := Sx.nodes_size p
          have hre := HIH.out p (by have := HN.out; have := HSP.out; omega) (by have := HN.out; omega) _ wr (IsTy.below (by rw [HL.out]; exact HWR.out) _ _ hty)
          obtain ⟨z, hz⟩ : ∃ z, Sx.nodes p = z := ⟨_, rfl⟩
          rw [hz] at hst hre hpb
          have z0 : (0 : Int) ≤ (z : Int) := by omega
          have z1 : (z : Int) ≤ 1000000 := by have := HN.out; have := HSP.out; omega
          have HRE := Lib.hid hre
          have HST := Lib.hid hst
          clear hre hst hsm hpe hty hc5 hz hpb
          go_wp2_with fail
          refine HRE.out.mono ?_
          rintro e w5 ⟨rfl, hb5⟩
          go_wp2_with fail
          go_roundg (k - (m + 1))
          case measure => have := HI.out; omega
          case rel => exact ⟨m + 1, q + z, rfl, by simp, by simp, hlt, by rw [HST.out]; have := HQ.out; omega, HWR.out.trans (hb5.mono hLs), by rw [HBX.out, hb5.block L hlr, HBR.out]⟩
        · have hmi : ¬ (m : Int) < (k : Int) := by omega
          have HFU := Lib.hid (List.take_of_length_le (show t.parts.length ≤ m by have := HK.out; omega))
          go_wp2_with fail
          go_ret
          refine ⟨?_, by first | exact HWR.out | (rw [HL.out]; exact HWR.out)⟩
          have h9 := HQ.out
          rw [HFU.out] at h9
          rw [HFP.out, if_neg H4.out, h9]
          simp

set_option maxRecDepth 100000 in
set_option maxHeartbeats 8000000 in
theorem refDepth : ∀ (n : Nat) (t : Sx.Ty), Sx.size t ≤ n → n ≤ 1000000 → ∀ (v : Value) (W : World), IsTy W v t →
    Calls Tryz.prog 42 #[v] W fun e W' => e = .returned (.int .i64 (Sx.depth t : Nat)) ∧ Below W.heap.size W W' := by
  intro n
  induction n with
  | zero => intro t h; have := Sx.size_pos t; omega
  | succ n ih =>
    intro t hn hn1 v W ht
    obtain ⟨An, cn, Ae, ce, Ap, cp, rfl, -, -, hp⟩ := ht.agg
    have hsp := Sx.size_parts t
    have hlen := Sx.length_size t.parts
    have hbd := Sx.depthL_size t.parts
    have hfp := Sx.depth_parts t
    obtain ⟨kd, hkd⟩ : ∃ kd, t.kind = kd := ⟨_, rfl⟩
    obtain ⟨k, hk⟩ : ∃ k, t.parts.length = k := ⟨_, rfl⟩
    rw [hk] at hp
    rw [hkd, hk]
    have k0 : (0 : Int) ≤ (k : Int) := by omega
    have k1 : (k : Int) ≤ 1000000 := by omega
    have HIH := Lib.hid ih
    have HSP := Lib.hid hsp
    have HN := Lib.hid (show Sx.size t ≤ n + 1 ∧ n + 1 ≤ 1000000 from ⟨hn, hn1⟩)
    have HP := Lib.hid hp
    have HK := Lib.hid hk
    have HFP := Lib.hid hfp
    have HBD := Lib.hid hbd
    obtain ⟨L, hL⟩ : ∃ L, W.heap.size = L := ⟨_, rfl⟩
    obtain ⟨w2, hw2⟩ : ∃ w2, W.alloc (.cells #[.int .i64 kd, .string ⟨t.name.toArray⟩, .slice An t.names.length cn, .slice Ae t.embeds.length ce, .slice Ap k cp] 26) = w2 := ⟨_, rfl⟩
    have hbox : w2.heap[L]? = some (.cells #[.int .i64 kd, .string ⟨t.name.toArray⟩, .slice An t.names.length cn, .slice Ae t.embeds.length ce, .slice Ap k cp] 26 (0, 0)) := by rw [← hw2, ← hL]; exact heap_alloc_new W _
    have hb2 : Below L W w2 := by rw [← hw2, ← hL]; exact grown_below (World.grownBy_alloc W _ none)
    obtain ⟨x0, x1, x2, x3, x4⟩ := five_cells hbox
    have hl2 := lt_of_block hbox
    have HBX := Lib.hid hbox
    have HB2 := Lib.hid hb2
    have HL := Lib.hid hL
    clear ih hsp hn hn1 hp hk ht hbox hb2 hlen hbd hfp hkd
    go_enter Tryz.func42, Tryz.ntmps42
    go_wp2_with fail
    clear x0 x1 x2 x3 x4
    go_loopg [3, 4] k (fun i v u wr => ∃ (m q : Nat), i = k - m ∧ v = .int .i64 (q : Nat) ∧ u = .int .i64 (m : Nat) ∧ m ≤ k ∧ q = Sx.depthL (t.parts.take m) ∧ Below L W wr ∧ wr.heap[L]? = w2.heap[L]?)
    case atStart => exact ⟨0, 0, rfl, rfl, rfl, Nat.zero_le _, by simp [Sx.depthL], HB2.out, rfl⟩
    case round =>
      obtain ⟨m, q, hi, rfl, rfl, hm, hq, hwr, hbr⟩ := hrel
      rw [HBX.out] at hbr
      obtain ⟨x0, x1, x2, x3, x4⟩ := five_cells hbr
      have hlr := lt_of_block hbr
      have hLs : L ≤ wr.heap.size := by omega
      have hle := Sx.depthL_take_le t.parts m
      have hqb : q ≤ 1000001 := by have := HBD.out; have := HSP.out; have := HN.out; omega
      have HI := Lib.hid hi
      have HQ := Lib.hid hq
      have HWR := Lib.hid hwr
      have HBR := Lib.hid hbr
      have m0 : (0 : Int) ≤ (m : Int) := by omega
      have q0 : (0 : Int) ≤ (q : Int) := by omega
      have q1 : (q : Int) ≤ 1000001 := by omega
      clear hi hq hwr hbr hle hqb
      by_cases hlt : m < k
      · have hmi : (m : Int) < (k : Int) := by omega
        have hmp : m < t.parts.length := by have := HK.out; omega
        obtain ⟨g, off, An1, cn1, Ae1, ce1, Aq, cq, rfl, hty, hc5⟩ := HP.out.spot m hmp
        rw [HL.out] at hc5
        obtain ⟨hg, c0, c1, c2, c3, c4⟩ := hc5 wr HWR.out
        have hst := Sx.depth_take hmp
        have hsm := Sx.size_mem (List.getElem_mem hmp)
        obtain ⟨p, hpe⟩ : ∃ p, t.parts[m]'hmp = p := ⟨_, rfl⟩
        rw [hpe] at c0 c1 c2 c3 c4 hty hst hsm
        have hpb := Sx.depth_size p
        have hre := HIH.out p (by have := HN.out; have := HSP.out; omega) (by have := HN.out; omega) _ wr (IsTy.below (by rw [HL.out]; exact HWR.out) _ _ hty)
        obtain ⟨z, hz⟩ : ∃ z, Sx.depth p = z := ⟨_, rfl⟩
        rw [hz] at hst hre hpb
        have z0 : (0 : Int) ≤ (z : Int) := by omega
        have z1 : (z : Int) ≤ 1000000 := by have := HN.out; have := HSP.out; omega
        have HRE := Lib.hid hre
        have HST := Lib.hid hst
        clear hre hst hsm hpe hty hc5 hz hpb
        by_cases hzq : q < z
        · have hzi : (q : Int) < (z : Int) := by omega
          go_wp2_with fail
          refine HRE.out.mono ?_
          rintro e w5 ⟨rfl, hb5⟩
          go_wp2_with fail
          go_roundg (k - (m + 1))
          case measure => have := HI.out; omega
          case rel => exact ⟨m + 1, z, rfl, by simp, by simp, hlt, by rw [HST.out]; have := HQ.out; omega, HWR.out.trans (hb5.mono hLs), by rw [HBX.out, hb5.block L hlr, HBR.out]⟩
        · have hzi : ¬ (q : Int) < (z : Int) := by omega
          go_wp2_with fail
          refine HRE.out.mono ?_
          rintro e w5 ⟨rfl, hb5⟩
          go_wp2_with fail
          go_roundg (k - (m + 1))
          case measure => have := HI.out; omega
          case rel => exact ⟨m + 1, q, rfl, by simp, by simp, hlt, by rw [HST.out]; have := HQ.out; omega, HWR.out.trans (hb5.mono hLs), by rw [HBX.out, hb5.block L hlr, HBR.out]⟩
      · have hmi : ¬ (m : Int) < (k : Int) := by omega
        have HFU := Lib.hid (List.take_of_length_le (show t.parts.length ≤ m by have := HK.out; omega))
        go_wp2_with fail
        go_ret
        refine ⟨?_, by first | exact HWR.out | (rw [HL.out]; exact HWR.out)⟩
        have h9 := HQ.out
        rw [HFU.out] at h9
        rw [HFP.out, h9]
        exact retInt (a := ((Sx.depthL t.parts : Nat) : Int) + 1) (by omega)

end Go.Proofs.YtdncljdfmdgdaaaGreatDoor

namespace Go.Proofs.YtdncljdfmdgdaaaGreatDoor
open Go.RowKit Go.WideMaps
set_option linter.unusedSimpArgs false
set_option linter.unusedVariables false

/-- A row of the call's own reads as a row of texts. -/
theorem OwnS.row {w : World} {B : Nat} {v : Value} {l : List Lx.Bytes} (h : OwnS w B v l) : StrRow w v l := by
  obtain ⟨A, c, hv⟩ := h.slice
  refine ⟨A, c, hv, fun i hi => ?_⟩
  rcases h.2 with ⟨h1, h0⟩ | ⟨g, cap, cur, h1, _, h2, _, _, _, h3⟩
  · omega
  · rw [hv] at h1
    injection h1 with h1 _ _
    refine ⟨g, 0, h1, ?_⟩
    rw [cell_of h2, Nat.zero_add, ← Array.getElem?_toList, ← List.getElem?_take_of_lt (l := cur.toList) (j := l.length * 1) (by omega), h3]
    simp [strsV, hi]

set_option maxRecDepth 100000 in
set_option maxHeartbeats 8000000 in
theorem synNames (l : List Sx.Ty) (v : Value) (W : World) (hn : Sx.sizeL l ≤ 1000000) (hv : TyRow W v l) :
    Calls Tryz.prog 17 #[v] W fun e W' => ∃ A, e = .returned (.slice A (Sx.once [] (Sx.allNamesL l)).length (Sx.once [] (Sx.allNamesL l)).length) ∧ StrRow W' (.slice A (Sx.once [] (Sx.allNamesL l)).length (Sx.once [] (Sx.allNamesL l)).length) (Sx.once [] (Sx.allNamesL l)) ∧ Below W.heap.size W W' := by
  have hmm := @run_makeMap Tryz.prog
  obtain ⟨A, c, rfl, hcap, hl⟩ := hv
  have hv : TyRow W (.slice A l.length c) l := ⟨A, c, rfl, hcap, hl⟩
  have HV := Lib.hid hv
  clear hv hl
  obtain ⟨L, hL⟩ : ∃ L, W.heap.size = L := ⟨_, rfl⟩
  have hmet : ∀ X, (((W.alloc (.cells #[.slice none 0 0] 22)).alloc (.map #[] 0)).alloc (.cells #[.map (some (W.heap.size + 1))] 107)) = X → Met W.heap.size W.heap.size (W.heap.size + 1 + 1) (W.heap.size + 1) [] X ∧ Below W.heap.size W X := by
    rintro X rfl
    refine ⟨⟨Nat.le_refl _, by omega, by omega, ⟨.slice none 0 0, ((Boxed.new W _ _).alloc _).alloc _, World.ownsRow_nil _ _ _ _⟩, ?_, 0, .map [], Nat.le_refl _, ?_, Maps.isMap_empty, fun s => rfl⟩, ?_⟩
    · have := Boxed.new ((W.alloc (.cells #[.slice none 0 0] 22)).alloc (.map #[] 0)) 107 (.map (some (W.heap.size + 1)))
      simpa using this
    · have := (World.ownsMap_made (W.alloc (.cells #[.slice none 0 0] 22)) Tryz.prog 9 (plainElem (H := Unit) Tryz.prog 3)).alloc (.cells #[.map (some (W.heap.size + 1))] 107)
      simpa using this
    · exact (((Below.refl _ W).alloc (Nat.le_refl _) _).alloc (by simp) _).alloc (by simp; omega) _
  have HMET := Lib.hid hmet
  clear hmet
  go_enter Tryz.func17, Tryz.ntmps17
  obtain ⟨X, hX⟩ : ∃ X, (((W.alloc (.cells #[.slice none 0 0] 22)).alloc (.map #[] 0)).alloc (.cells #[.map (some (L + 1))] 107)) = X := ⟨_, rfl⟩
  have hh := HMET.out X (by rw [← hX, hL])
  have hcall := synNamesGo W W.heap.size (W.heap.size + 1 + 1) (W.heap.size + 1) (Sx.sizeL l) l _ [] X (Nat.le_refl _) (by simpa using hn) HV.out hh.2 hh.1
  rw [hL] at hcall
  have HC := Lib.hid hcall
  clear hcall hh
  go_wp2_with fail
  refine HC.out.mono ?_
  rintro e W3 ⟨rfl, ⟨-, -, -, ⟨u, hbl, ho⟩, -, -⟩, hb3, -⟩
  have cL := hbl.cell
  have hl3 := hbl.lt
  rw [List.nil_append] at ho
  obtain ⟨A', c', rfl⟩ := ho.slice
  have HO := Lib.hid ho
  have HB3 := Lib.hid hb3
  obtain ⟨r, hr⟩ : ∃ r, Sx.once [] (Sx.allNamesL l) = r := ⟨_, rfl⟩
  have HR := Lib.hid hr
  have hrl : r.length ≤ 1000000 := by
    have := Sx.once_len (Sx.allNamesL l) []
    have := Sx.namesL_size l
    rw [← hr]
    simp at *
    omega
  have hrc : r.length ≤ c' := by
    rcases ho.2 with ⟨h1, h0⟩ | ⟨g, cap, cur, h1, _, _, h2, _⟩
    · rw [hr] at h0; omega
    · rw [hr] at h1 h2; injection h1 with _ _ h1; omega
  have hri : (r.length : Int) ≤ (c' : Int) := by omega
  have hr0 : (0 : Int) ≤ (r.length : Int) := by omega
  rw [hr] at cL
  clear ho hbl hb3 hr
  go_wp2_with fail
  go_ret
  rw [HR.out]
  refine ⟨A', rfl, ?_, by rw [hL]; exact HB3.out⟩
  obtain ⟨A1, c1, h1, h2⟩ := HO.out.row
  rw [HR.out] at h1 h2
  injection h1 with h1 _ _
  subst h1
  exact ⟨A', r.length, rfl, h2⟩

end Go.Proofs.YtdncljdfmdgdaaaGreatDoor

namespace Go.Proofs.YtdncljdfmdgdaaaGreatDoor
open Go.RowKit Go.Shelf
set_option linter.unusedSimpArgs false
set_option linter.unusedVariables false

theorem contains_take {l : List Lx.Bytes} {m : Nat} (h : m < l.length) (s : Lx.Bytes) : (l.take (m + 1)).contains s = ((l.take m).contains s || l[m] == s) := by
  rw [List.take_succ_eq_append_getElem h, Bool.eq_iff_iff]
  simp only [List.contains_iff_mem, List.mem_append, List.mem_singleton, Bool.or_eq_true, beq_iff_eq]
  constructor
  · rintro (h | rfl)
    · exact .inl h
    · exact .inr rfl
  · rintro (h | h)
    · exact .inl h
    · exact .inr h.symm

theorem own_slice {w : World} {base : Nat} {e : TypeId} {size : Nat} {v : Value} {n : Nat} {xs : List Value} (h : w.ownsRow base e size v n xs) : ∃ A c, v = .slice A n c := by
  rcases h.2 with ⟨rfl, h0⟩ | ⟨g, cap, cur, rfl, _⟩
  · exact ⟨none, 0, by rw [h0]⟩
  · exact ⟨_, cap, rfl⟩
theorem World.ownsRow.drewN2 {w : World} {base : Nat} {e : TypeId} {size : Nat} {v : Value} {n : Nat} {xs : List Value} (h : w.ownsRow base e size v n xs) (N : Nat) : (w.drewN N).ownsRow base e size v n xs := h
theorem Keep.drewN2 (w : World) (N : Nat) : Keep w (w.drewN N) := fun _ _ _ _ h _ _ => h

set_option maxRecDepth 100000 in
set_option maxHeartbeats 8000000 in
theorem refNamesGo (W0 : World) : ∀ (n : Nat) (t : Sx.Ty), Sx.size t ≤ n → n ≤ 1000000 → ∀ (v u : Value) (l : List Lx.Bytes) (w : World), IsTy W0 v t → Below W0.heap.size W0 w → OwnS w W0.heap.size u l → l.length + Sx.size t ≤ 2000000 →
    Calls Tryz.prog 44 #[u, v] w fun e w' => ∃ u', e = .returned u' ∧ OwnS w' W0.heap.size u' (Sx.once l (Sx.allNames t)) ∧ Below W0.heap.size W0 w' ∧ Keep w w' := by
  intro n
  induction n with
  | zero => intro t h; have := Sx.size_pos t; omega
  | succ n ih =>
    intro t hn hn1 v u l w ht hb hu hlen
    obtain ⟨An, cn, Ae, ce, Ap, cp, rfl, -, -, hp⟩ := ht.agg
    obtain ⟨A, c, rfl⟩ := hu.slice
    have hsp := Sx.size_parts t
    have hls := Sx.length_size t.parts
    have hfp := Sx.names_parts t
    obtain ⟨kd, hkd⟩ : ∃ kd, t.kind = kd := ⟨_, rfl⟩
    obtain ⟨nm, hnm⟩ : ∃ kd, t.name = kd := ⟨_, rfl⟩
    obtain ⟨k, hk⟩ : ∃ k, t.parts.length = k := ⟨_, rfl⟩
    obtain ⟨q, hq⟩ : ∃ q, l.length = q := ⟨_, rfl⟩
    rw [hk] at hp
    rw [hkd, hk, hnm, hq]
    rw [hkd, hnm] at hfp
    have k0 : (0 : Int) ≤ (k : Int) := by omega
    have k1 : (k : Int) ≤ 1000000 := by omega
    have q0 : (0 : Int) ≤ (q : Int) := by omega
    have q1 : (q : Int) ≤ 2000000 := by omega
    obtain ⟨L, hL⟩ : ∃ L, w.heap.size = L := ⟨_, rfl⟩
    obtain ⟨B, hB⟩ : ∃ B, W0.heap.size = B := ⟨_, rfl⟩
    rw [hB] at hb hu ⊢
    have hBL : B ≤ L := by rw [← hL, ← hB]; have := hb.size; omega
    obtain ⟨w2, hw2⟩ : ∃ w2, w.alloc (.cells #[.int .i64 kd, .string ⟨nm.toArray⟩, .slice An t.names.length cn, .slice Ae t.embeds.length ce, .slice Ap k cp] 26) = w2 := ⟨_, rfl⟩
    have hbox : w2.heap[L]? = some (.cells #[.int .i64 kd, .string ⟨nm.toArray⟩, .slice An t.names.length cn, .slice Ae t.embeds.length ce, .slice Ap k cp] 26 (0, 0)) := by rw [← hw2, ← hL]; exact heap_alloc_new w _
    have hg2 : w.grownBy w2 none := by rw [← hw2]; exact World.grownBy_alloc w _ none
    have hb2 : Below B W0 w2 := hb.trans ((grown_below hg2).mono (by omega))
    have hkp2 : Keep w w2 := Keep.grown hg2 (fun j e => nomatch e)
    have hu2 : OwnS w2 B (.slice A q c) l := by rw [hq] at hu; exact World.ownsRow.kept hu hg2 (by cases (Value.slice A q c).ownBlock <;> simp)
    obtain ⟨x0, x1, x2, x3, x4⟩ := five_cells hbox
    have hl2 := lt_of_block hbox
    obtain ⟨l1, hl1⟩ : ∃ l1, Sx.once l (if kd = 4 then [nm] else []) = l1 := ⟨_, rfl⟩
    have hl1n : l1.length ≤ q + 1 := by
      have := Sx.once_len (if kd = 4 then [nm] else []) l
      rw [← hl1, ← hq]
      split at this <;> simp at this ⊢ <;> (try split) <;> simp_all <;> omega
    have hres : Sx.once l (Sx.allNames t) = Sx.once l1 (Sx.allNamesL t.parts) := by rw [hfp, Sx.once_append, hl1]
    have HRES := Lib.hid hres
    have HL1 := Lib.hid hl1
    have HIH := Lib.hid ih
    have HSP := Lib.hid hsp
    have HN := Lib.hid (show Sx.size t ≤ n + 1 ∧ n + 1 ≤ 1000000 from ⟨hn, hn1⟩)
    have HLN := Lib.hid hlen
    have HP := Lib.hid hp
    have HK := Lib.hid hk
    have HQ := Lib.hid hq
    have HL := Lib.hid hL
    have HB := Lib.hid hB
    have HBX := Lib.hid hbox
    have HB2 := Lib.hid hb2
    have HKP := Lib.hid hkp2
    have HU := Lib.hid hu2
    have HN1 := Lib.hid hl1n
    clear hres hl1 ih hsp hn hn1 hlen hp hk hq hbox hb2 hkp2 hu2 hu hb hg2 hls hfp hkd hnm ht hl1n
    go_enter Tryz.func44, Tryz.ntmps44
    go_upto_if 10 with (fail)
    go_cut [0] (fun v wx => ∃ A1 c1, v = .slice A1 l1.length c1 ∧ OwnS wx B (.slice A1 l1.length c1) l1 ∧ Below B W0 wx ∧ Keep w2 wx)
    case first =>
      by_cases h4 : kd = 4
      · subst h4
        go_wp2_with fail
        go_loopg [5, 6] q (fun i v5 v6 wr => ∃ (m : Nat), i = q - m ∧ v5 = .bool ((l.take m).contains nm) ∧ v6 = .int .i64 (m : Nat) ∧ m ≤ q ∧ ∃ N, wr = w2.drewN N)
        case atStart => exact ⟨0, rfl, by simp, rfl, Nat.zero_le _, 0, rfl⟩
        case round =>
          obtain ⟨m, hi, rfl, rfl, hm, N, rfl⟩ := hrel
          have HI := Lib.hid hi
          have m0 : (0 : Int) ≤ (m : Int) := by omega
          clear hi
          by_cases hlt : m < q
          · have hmi : (m : Int) < (q : Int) := by omega
            have hml : m < l.length := by have := HQ.out; omega
            obtain ⟨g, off, rfl, hgl, t0⟩ := (OwnS.row HU.out).cellAt (Below.refl _ _) m hml
            have HC := Lib.hid (contains_take hml nm)
            obtain ⟨s, hs⟩ : ∃ s, l[m]'hml = s := ⟨_, rfl⟩
            rw [hs] at t0 HC
            clear hs
            obtain ⟨b, hbq⟩ : ∃ b, (l.take m).contains nm = b := ⟨_, rfl⟩
            rw [hbq] at HC ⊢
            clear hbq
            cases b with
            | true =>
              go_wp2_with fail
              go_quiet (fail)
              go_wp2_with fail
              go_roundg (q - (m + 1))
              case measure => have := HI.out; omega
              case rel => exact ⟨m + 1, rfl, by rw [HC.out]; simp, by simp, hlt, N + nq, rfl⟩
            | false =>
              obtain ⟨b2, hb2⟩ : ∃ b, (s == nm) = b := ⟨_, rfl⟩
              have hbb : (s.toArray.toList == nm.toArray.toList) = b2 := by simpa using hb2
              go_wp2_with fail
              go_quiet (fail)
              go_wp2_with fail
              go_roundg (q - (m + 1))
              case measure => have := HI.out; omega
              case rel => exact ⟨m + 1, rfl, by rw [HC.out]; simp [hb2], by simp, hlt, N + nq, rfl⟩
          · have hmi : ¬ (m : Int) < (q : Int) := by omega
            have hfu : (l.take m).contains nm = l.contains nm := by rw [List.take_of_length_le (by have := HQ.out; omega)]
            rw [hfu]
            cases hc : l.contains nm with
            | true =>
              have hll : l1 = l := by rw [← HL1.out]; simp only [if_true, Sx.once, hc]
              have HLL := Lib.hid hll
              have HLQ := Lib.hid (show l1.length = q by rw [hll]; exact HQ.out)
              clear hll hc hfu
              go_wp2_with fail
              go_meet
              rw [HLQ.out]
              exact ⟨A, c, rfl, by rw [HLL.out]; exact World.ownsRow.drewN2 HU.out N, Below.drewN HB2.out N, Keep.drewN2 w2 N⟩
            | false =>
              have hll : l1 = l ++ [nm] := by rw [← HL1.out]; simp only [if_true, Sx.once, hc, Bool.false_eq_true, if_false]
              have HLL := Lib.hid hll
              have HLQ := Lib.hid (show l1.length = q + 1 by rw [hll, List.length_append, HQ.out]; rfl)
              clear hll hc hfu
              obtain ⟨i0, hi, hz0, hz1, hz2⟩ := info_parts infoStr
              obtain ⟨w3, hw3⟩ : ∃ w3, w2.drewN N = w3 := ⟨_, rfl⟩
              have ho3 : w3.ownsRow B 9 1 (.slice A q c) q (strsV l) := by rw [← hw3, ← HQ.out]; have := HU.out; rw [← HQ.out] at this; exact World.ownsRow.drewN2 this N
              have hb3 : Below B W0 w3 := by rw [← hw3]; exact Below.drewN HB2.out N
              have hk3 : Keep w2 w3 := by rw [← hw3]; exact Keep.drewN2 w2 N
              rw [hw3]
              have hBs := hb3.size
              have hbx3 := HBX.out
              rw [show w2.heap = w3.heap by rw [← hw3]; rfl] at hbx3
              clear x0 x1 x2 x3 x4
              obtain ⟨x0, x1, x2, x3, x4⟩ := five_cells hbx3
              have hl3 := lt_of_block hbx3
              clear hbx3 hw3
              have HO3 := Lib.hid ho3
              have HB3 := Lib.hid hb3
              have HK3 := Lib.hid hk3
              clear ho3 hb3 hk3
              go_wp2_with (at_builtin; (refine wpList_append_own _ rfl _ _ 22 rfl B 9 i0 _ 1 16 Tryz.underlying22 hi hz0 hz1 hz2 rfl (by decide) (.slice A q c) q (strsV l) rfl (World.ownsRow.alloc HO3.out _) ⟨w3.heap.size, 0, none⟩ 1 1 [.string ⟨nm.toArray⟩] rfl rfl (cell_one_new _ _ _) (by simp [Value.oneCell']) (by unfold maxLen; omega) (by omega) (by simp; omega) ?_; intro v' w4 hown' hgrow' _; obtain ⟨A4, c4, rfl⟩ := own_slice hown'))
              go_meet
              rw [HLQ.out]
              have hg4 : w3.grownBy w4 (Value.slice A q c).ownBlock := (World.grownBy_alloc w3 _ _).trans hgrow'
              refine ⟨A4, c4, rfl, ?_, HB3.out.grown hg4 (by rw [← HB.out]; exact hBs) (fun j e => (row_kind HO3.out j e).1), HK3.out.trans (Keep.grown hg4 ?_)⟩
              · unfold OwnS
                rw [HLQ.out, HLL.out]
                unfold strsV
                rw [List.map_append]
                exact hown'
              · intro j e cs t fr hj
                obtain ⟨_, c, h2⟩ := row_kind HO3.out j e
                rw [h2] at hj
                injection hj with hj
                injection hj with _ hj
                exact .inl hj.symm
      · have b4 : (kd == 4) = false := by rw [beq_eq_false_iff_ne]; exact h4
        have hll : l1 = l := by rw [← HL1.out, if_neg h4, Sx.once]
        have HLL := Lib.hid hll
        have HLQ := Lib.hid (show l1.length = q by rw [hll]; exact HQ.out)
        clear hll h4
        go_wp2_with fail
        go_meet
        rw [HLQ.out]
        exact ⟨A, c, rfl, by rw [HLL.out]; exact HU.out, HB2.out, Keep.refl _⟩
    case rest =>
      obtain ⟨A1, c1, rfl, ho1, hb1, hk1⟩ := hcut
      have HO1 := Lib.hid ho1
      have HB1 := Lib.hid hb1
      have HK1 := Lib.hid hk1
      clear ho1 hb1 hk1 x0 x1 x2 x3 x4
      go_wp2_with fail
      go_loopg [0, 7] k (fun i v0 v7 wr => ∃ (m : Nat) (A5 : Option Addr) (n5 c5 : Nat), i = k - m ∧ v0 = .slice A5 n5 c5 ∧ v7 = .int .i64 (m : Nat) ∧ m ≤ k ∧ OwnS wr B (.slice A5 n5 c5) (Sx.once l1 (Sx.allNamesL (t.parts.take m))) ∧ Below B W0 wr ∧ Keep w2 wr)
      case atStart => exact ⟨0, A1, l1.length, c1, rfl, rfl, rfl, Nat.zero_le _, by simpa [Sx.allNamesL, Sx.once] using HO1.out, HB1.out, HK1.out⟩
      case round =>
        obtain ⟨m, A5, n5, c5, hi, rfl, rfl, hm, ho, hb, hkp⟩ := hrel
        have hbr := hkp _ _ _ _ HBX.out (by decide) (by decide)
        obtain ⟨x0, x1, x2, x3, x4⟩ := five_cells hbr
        have hlr := lt_of_block hbr
        have HI := Lib.hid hi
        have HO := Lib.hid ho
        have HBW := Lib.hid hb
        have HKW := Lib.hid hkp
        have m0 : (0 : Int) ≤ (m : Int) := by omega
        clear hi ho hb hkp hbr
        by_cases hlt : m < k
        · have hmi : (m : Int) < (k : Int) := by omega
          have hmp : m < t.parts.length := by have := HK.out; omega
          obtain ⟨g, off, An1, cn1, Ae1, ce1, Aq, cq, rfl, hty, hc5⟩ := HP.out.spot m hmp
          rw [HB.out] at hc5
          obtain ⟨hg, c0, c1', c2, c3, c4⟩ := hc5 wr HBW.out
          have hsm := Sx.size_mem (List.getElem_mem hmp)
          have hst := Sx.names_take hmp
          have hll := Sx.once_len (Sx.allNamesL (t.parts.take m)) l1
          have hl2 := Sx.namesL_size (t.parts.take m)
          have hl3 := Sx.size_take hmp
          have hl4 := Sx.sizeL_take_le t.parts (m + 1)
          obtain ⟨p, hpe⟩ : ∃ p, t.parts[m]'hmp = p := ⟨_, rfl⟩
          rw [hpe] at c0 c1' c2 c3 c4 hty hst hsm hl3
          have hre := HIH.out p (by have := HN.out; have := HSP.out; omega) (by have := HN.out; omega) _ (.slice A5 n5 c5) (Sx.once l1 (Sx.allNamesL (t.parts.take m))) wr hty (by rw [HB.out]; exact HBW.out) (by rw [HB.out]; exact HO.out) (by have := HLN.out; have := HQ.out; have := HN1.out; have := HSP.out; omega)
          have HRE := Lib.hid hre
          have HST := Lib.hid hst
          clear hre hst hsm hpe hty hc5 hll hl2 hl3 hl4
          go_wp2_with fail
          refine HRE.out.mono ?_
          rintro e w5 ⟨u5, rfl, ho5, hb5, hk5⟩
          obtain ⟨A6, c6, rfl⟩ := ho5.slice
          have HO5 := Lib.hid ho5
          clear ho5
          go_wp2_with fail
          go_roundg (k - (m + 1))
          case measure => have := HI.out; omega
          case rel => exact ⟨m + 1, A6, _, c6, rfl, rfl, by simp, hlt, by rw [HST.out, Sx.once_append, ← HB.out]; exact HO5.out, by rw [← HB.out]; exact hb5, HKW.out.trans hk5⟩
        · have hmi : ¬ (m : Int) < (k : Int) := by omega
          have HFU := Lib.hid (List.take_of_length_le (show t.parts.length ≤ m by have := HK.out; omega))
          go_wp2_with fail
          go_ret
          refine ⟨_, rfl, ?_, HBW.out, HKP.out.trans HKW.out⟩
          have h9 := HO.out
          rw [HFU.out] at h9
          rw [HRES.out]
          exact h9

end Go.Proofs.YtdncljdfmdgdaaaGreatDoor

namespace Go.Proofs.YtdncljdfmdgdaaaGreatDoor
open Go.RowKit Go.Shelf
set_option linter.unusedSimpArgs false
set_option linter.unusedVariables false

theorem Sub.since_mono {W : World} {B B' : Nat} (h : B' ≤ B) : Sub (only W (since B)) (only W (since B')) := only_keep fun g hg hs => ⟨since_iff.2 (by have := since_iff.1 hs; omega), rfl⟩
/-- What lies from B on stays, if those blocks do. -/
theorem Sub.since_keep {W W' : World} {B : Nat} (h : ∀ g, g < W.heap.size → B ≤ g → W'.heap[g]? = W.heap[g]?) : Sub (only W (since B)) (only W' (since B)) := only_keep fun g hg hs => ⟨hs, h g hg (since_iff.1 hs)⟩
theorem Sub.but_since {W : World} {B : Nat} : Sub (only W (but B none none)) (only W (since B)) := only_keep fun g hg hs => ⟨since_iff.2 (but_iff.1 hs).1, rfl⟩

/-- The three blocks of a call that copies a type. -/
structure OwnSt (L : Nat) (W : World) (c0 c1 c2 : Array Value) (w : World) : Prop where
  b : Below L W w
  k0 : w.heap[L]? = some (.cells c0 26 (0, 0))
  k1 : w.heap[L + 1]? = some (.cells c1 26 (0, 0))
  k2 : w.heap[L + 1 + 1]? = some (.cells c2 26 (0, 0))
theorem OwnSt.go {L : Nat} {W w w' : World} {c0 c1 c2 : Array Value} (h : OwnSt L W c0 c1 c2 w) (hb : Below w.heap.size w w') : OwnSt L W c0 c1 c2 w' :=
  have hl := lt_of_block h.k2
  ⟨h.b.trans (hb.mono (by omega)), (hb.block _ (by omega)).trans h.k0, (hb.block _ (by omega)).trans h.k1, (hb.block _ hl).trans h.k2⟩
theorem OwnSt.grown {L : Nat} {W w w' : World} {c0 c1 c2 : Array Value} (h : OwnSt L W c0 c1 c2 w) {r : Option Nat} (hg : w.grownBy w' r) (hr : ∀ j, r = some j → L + 1 + 1 + 1 ≤ j) : OwnSt L W c0 c1 c2 w' :=
  have hl := lt_of_block h.k2
  ⟨h.b.grown hg (by omega) (fun j e => by have := hr j e; omega), (hg.block _ (by omega) (fun e => by have := hr _ e.symm; omega)).trans h.k0, (hg.block _ (by omega) (fun e => by have := hr _ e.symm; omega)).trans h.k1, (hg.block _ hl (fun e => by have := hr _ e.symm; omega)).trans h.k2⟩
theorem OwnSt.set {L : Nat} {W w : World} {c0 c1 c2 : Array Value} (h : OwnSt L W c0 c1 c2 w) (j : Nat) (v : Value) : OwnSt L W c0 c1 (c2.setIfInBounds j v) (w.setCell ⟨L + 1 + 1, j, none⟩ v) :=
  ⟨h.b.setCell (by simp; omega) v, (Below.heap_setCell _ _ _ _ (by simp; omega)).trans h.k0, (Below.heap_setCell _ _ _ _ (by simp)).trans h.k1, heap_setCell_same _ _ _ _ _ _ h.k2⟩
theorem OwnSt.lt {L : Nat} {W w : World} {c0 c1 c2 : Array Value} (h : OwnSt L W c0 c1 c2 w) : L < w.heap.size ∧ L + 1 < w.heap.size ∧ L + 1 + 1 < w.heap.size := ⟨lt_of_block h.k0, lt_of_block h.k1, lt_of_block h.k2⟩
theorem Sub.since_set {L j : Nat} {w : World} {v : Value} : Sub (only w (since (L + 1 + 1 + 1))) (only (w.setCell ⟨L + 1 + 1, j, none⟩ v) (since (L + 1 + 1 + 1))) := Sub.since_keep fun g _ hB => Below.heap_setCell _ _ _ _ (by simp; omega)
theorem Sub.since_below {w w' : World} {B : Nat} (h : Below w.heap.size w w') : Sub (only w (since B)) (only w' (since B)) := Sub.since_keep fun g hg _ => h.block g hg
theorem five_free {w : World} {g t : Nat} {cs : Array Value} (h : w.heap[g]? = some (.cells cs t (0, 0))) : w.frozen? ⟨g, 0, none⟩ = false ∧ w.frozen? ⟨g, 1, none⟩ = false ∧ w.frozen? ⟨g, 2, none⟩ = false ∧ w.frozen? ⟨g, 3, none⟩ = false ∧ w.frozen? ⟨g, 4, none⟩ = false :=
  ⟨free_of h 0, free_of h 1, free_of h 2, free_of h 3, free_of h 4⟩

theorem IsTy.made2 {w : World} {k : Int} {nm : Lx.Bytes} {vn ve vp : Value} {ns : List Lx.Bytes} {es : List Bool} {ps : List Sx.Ty} (h1 : StrRow w vn ns) (h2 : BoolRow w ve es) (h3 : TyRow w vp ps) :
    IsTy w (.agg #[.int .i64 k, .string ⟨nm.toArray⟩, vn, ve, vp]) (.mk k nm ns es ps) := by
  obtain ⟨A, c, rfl, hc, hl⟩ := h3
  rw [IsTy]
  exact ⟨vn, ve, A, c, rfl, h1, h2, hc, hl⟩
def OwnOk (t : Sx.Ty) : Prop := ∀ (v : Value) (W : World), IsTy W v t →
  Calls Tryz.prog 26 #[v] W fun e W' => ∃ v', e = .returned v' ∧ IsTy (only W' (since W.heap.size)) v' t ∧ Below W.heap.size W W'

set_option maxRecDepth 100000 in
set_option maxHeartbeats 8000000 in
theorem keepOwn1 (t : Sx.Ty) (hsz : Sx.size t ≤ 1000000) (ih : ∀ p ∈ t.parts, OwnOk p) : OwnOk t := by
  intro v W ht
  obtain ⟨An, cn, Ae, ce, Ap, cp, rfl, hnm, hem, hp⟩ := ht.agg
  have hs1 := Sx.size_parts t
  have hp1 := Sx.length_size t.parts
  obtain ⟨nl, hnl⟩ : ∃ k, t.names.length = k := ⟨_, rfl⟩
  obtain ⟨el, hel⟩ : ∃ k, t.embeds.length = k := ⟨_, rfl⟩
  obtain ⟨k, hk⟩ : ∃ k, t.parts.length = k := ⟨_, rfl⟩
  obtain ⟨kd, hkd⟩ : ∃ k, t.kind = k := ⟨_, rfl⟩
  obtain ⟨nm, hnmm⟩ : ∃ k, t.name = k := ⟨_, rfl⟩
  rw [hnl] at hnm hs1
  rw [hel] at hem hs1
  rw [hk] at hp hp1
  rw [hkd, hnmm, hnl, hel, hk]
  have n1 : nl ≤ 1000000 := by omega
  have e1 : el ≤ 1000000 := by omega
  have k0 : (0 : Int) ≤ (k : Int) := by omega
  have k1 : (k : Int) ≤ 1000000 := by omega
  obtain ⟨L, hL⟩ : ∃ L, W.heap.size = L := ⟨_, rfl⟩
  have HNM := Lib.hid hnm
  have HEM := Lib.hid hem
  have HP := Lib.hid hp
  have HIH := Lib.hid ih
  have HK := Lib.hid hk
  have HKN := Lib.hid (show k ≤ 1000000 by omega)
  have HL := Lib.hid hL
  have HTT := Lib.hid (show t = .mk kd nm t.names t.embeds t.parts by cases t; subst hkd hnmm; rfl)
  clear hnm hem hp ih hk hkd hnmm hnl hel hs1 hp1 hsz ht
  go_enter Tryz.func26, Tryz.ntmps26
  go_upto_region 2 with (fail)
  obtain ⟨w3, hw3⟩ : ∃ w3, ((W.alloc (.cells #[.int .i64 kd, .string ⟨nm.toArray⟩, .slice An nl cn, .slice Ae el ce, .slice Ap k cp] 26)).alloc (.cells #[.int .i64 0, .string ⟨#[]⟩, .slice none 0 0, .slice none 0 0, .slice none 0 0] 26)).alloc (.cells #[.int .i64 kd, .string ⟨nm.toArray⟩, .slice none 0 0, .slice none 0 0, .slice none 0 0] 26) = w3 := ⟨_, rfl⟩
  rw [hw3]
  have hst : OwnSt L W #[.int .i64 kd, .string ⟨nm.toArray⟩, .slice An nl cn, .slice Ae el ce, .slice Ap k cp] #[.int .i64 0, .string ⟨#[]⟩, .slice none 0 0, .slice none 0 0, .slice none 0 0] #[.int .i64 kd, .string ⟨nm.toArray⟩, .slice none 0 0, .slice none 0 0, .slice none 0 0] w3 := by
    subst hL
    refine ⟨?_, ?_, ?_, ?_⟩
    · rw [← hw3]
      exact (((Below.refl _ W).alloc (Nat.le_refl _) _).alloc (by simp) _).alloc (by simp; omega) _
    · rw [← hw3]
      exact heap_alloc (heap_alloc (heap_alloc_new W _) _) _
    · rw [← hw3]
      have := heap_alloc_new (W.alloc (.cells #[.int .i64 kd, .string ⟨nm.toArray⟩, .slice An nl cn, .slice Ae el ce, .slice Ap k cp] 26)) (.cells #[.int .i64 0, .string ⟨#[]⟩, .slice none 0 0, .slice none 0 0, .slice none 0 0] 26)
      rw [show (W.alloc (.cells #[.int .i64 kd, .string ⟨nm.toArray⟩, .slice An nl cn, .slice Ae el ce, .slice Ap k cp] 26)).heap.size = W.heap.size + 1 by simp] at this
      exact heap_alloc this _
    · rw [← hw3]
      have := heap_alloc_new ((W.alloc (.cells #[.int .i64 kd, .string ⟨nm.toArray⟩, .slice An nl cn, .slice Ae el ce, .slice Ap k cp] 26)).alloc (.cells #[.int .i64 0, .string ⟨#[]⟩, .slice none 0 0, .slice none 0 0, .slice none 0 0] 26)) (.cells #[.int .i64 kd, .string ⟨nm.toArray⟩, .slice none 0 0, .slice none 0 0, .slice none 0 0] 26)
      rw [show ((W.alloc (.cells #[.int .i64 kd, .string ⟨nm.toArray⟩, .slice An nl cn, .slice Ae el ce, .slice Ap k cp] 26)).alloc (.cells #[.int .i64 0, .string ⟨#[]⟩, .slice none 0 0, .slice none 0 0, .slice none 0 0] 26)).heap.size = W.heap.size + 1 + 1 by simp] at this
      exact this
  have hsz3 : w3.heap.size = L + 1 + 1 + 1 := by rw [← hw3, ← hL]; simp
  have HS := Lib.hid hst
  have HSZ := Lib.hid hsz3
  clear hw3 hst hsz3
  obtain ⟨x0, x1, x2, x3, x4⟩ := five_cells HS.out.k0
  obtain ⟨y0, y1, y2, y3, y4⟩ := five_cells HS.out.k2
  obtain ⟨l1, l2, l3⟩ := HS.out.lt
  go_upto_region 3 with (first
    | (at_builtin; refine wpList_append_strs rfl _ _ rfl rfl rfl (HNM.out.below (by rw [HL.out]; exact HS.out.b)) n1 ?_; intro AN cN w4 hr4 hb4; have hs4 := HS.out.go hb4; obtain ⟨m1, m2, m3⟩ := hs4.lt; obtain ⟨f0, f1, f2, f3, f4⟩ := five_free hs4.k2; obtain ⟨q0, q1, q2, q3, q4⟩ := five_cells hs4.k2))
  obtain ⟨w5, hw5⟩ : ∃ w5, w4.setCell ⟨L + 1 + 1, 2, none⟩ (.slice AN nl cN) = w5 := ⟨_, rfl⟩
  rw [hw5]
  have hs5 := hs4.set 2 (.slice AN nl cN)
  rw [hw5] at hs5
  have hr5 : StrRow (only w5 (since (L + 1 + 1 + 1))) (.slice AN nl cN) t.names := by
    rw [HSZ.out] at hr4
    rw [← hw5]
    exact hr4.sub Sub.since_set
  have hz5 : L + 1 + 1 + 1 ≤ w5.heap.size := by rw [← hw5]; simp [World.setCell]; omega
  have HS5 := Lib.hid hs5
  have HR5 := Lib.hid hr5
  clear hs4 hs5 hr4 hr5 hb4 hw5 f0 f1 f2 f3 f4 q0 q1 q2 q3 q4 m1 m2 m3 x0 x1 x2 x3 x4 y0 y1 y2 y3 y4 l1 l2 l3
  obtain ⟨x0, x1, x2, x3, x4⟩ := five_cells HS5.out.k0
  obtain ⟨y0, y1, y2, y3, y4⟩ := five_cells HS5.out.k2
  obtain ⟨l1, l2, l3⟩ := HS5.out.lt
  go_upto_region 4 with (first
    | (at_builtin; refine wpList_append_bools rfl _ _ rfl rfl rfl (HEM.out.below (by rw [HL.out]; exact HS5.out.b)) e1 ?_; intro AE cE w6 hr6 hb6; have hs6 := HS5.out.go hb6; obtain ⟨m1, m2, m3⟩ := hs6.lt; obtain ⟨f0, f1, f2, f3, f4⟩ := five_free hs6.k2; obtain ⟨q0, q1, q2, q3, q4⟩ := five_cells hs6.k2))
  obtain ⟨w7, hw7⟩ : ∃ w7, w6.setCell ⟨L + 1 + 1, 3, none⟩ (.slice AE el cE) = w7 := ⟨_, rfl⟩
  rw [hw7]
  have hs7 := hs6.set 3 (.slice AE el cE)
  rw [hw7] at hs7
  have hr7 : BoolRow (only w7 (since (L + 1 + 1 + 1))) (.slice AE el cE) t.embeds := by
    rw [← hw7]
    exact (hr6.sub (Sub.since_mono hz5)).sub Sub.since_set
  have hq7 : StrRow (only w7 (since (L + 1 + 1 + 1))) (.slice AN nl cN) t.names := by
    rw [← hw7]
    exact (HR5.out.sub (Sub.since_below hb6)).sub Sub.since_set
  have hz7 : L + 1 + 1 + 1 ≤ w7.heap.size := by have := hb6.size; rw [← hw7]; simp [World.setCell]; omega
  have HS7 := Lib.hid hs7
  have HR7 := Lib.hid hr7
  have HQ7 := Lib.hid hq7
  clear hs6 hs7 hr6 hr7 hq7 hb6 hw7 f0 f1 f2 f3 f4 q0 q1 q2 q3 q4 m1 m2 m3 x0 x1 x2 x3 x4 y0 y1 y2 y3 y4 l1 l2 l3
  go_wp2_with fail
  obtain ⟨M, hM⟩ : ∃ M, w7.heap.size = M := ⟨_, rfl⟩
  have HM := Lib.hid hM
  rw [hM] at hz7
  clear hM
  go_loopg [4] k (fun i v wr => ∃ (m : Nat) (A : Option Addr) (c : Nat), i = k - m ∧ v = .int .i64 (m : Nat) ∧ m ≤ k ∧ OwnSt L W #[.int .i64 kd, .string ⟨nm.toArray⟩, .slice An nl cn, .slice Ae el ce, .slice Ap k cp] #[.int .i64 0, .string ⟨#[]⟩, .slice none 0 0, .slice none 0 0, .slice none 0 0] #[.int .i64 kd, .string ⟨nm.toArray⟩, .slice AN nl cN, .slice AE el cE, .slice A m c] wr ∧
    (∀ gg, L + 1 + 1 + 1 ≤ gg → gg < M → wr.heap[gg]? = w7.heap[gg]?) ∧ Own RTy 26 5 M none wr (.slice A m c) (t.parts.take m) ∧ M ≤ wr.heap.size)
  case atStart => exact ⟨0, none, 0, rfl, rfl, Nat.zero_le _, HS7.out, fun _ _ _ => rfl, Own.nil, Nat.le_of_eq HM.out.symm⟩
  case round =>
    obtain ⟨m, A, c, hi, rfl, hm, hs, hq, ho, hz⟩ := hrel
    have HI := Lib.hid hi
    have HSR := Lib.hid hs
    have HQR := Lib.hid hq
    have HO := Lib.hid ho
    have m0 : (0 : Int) ≤ (m : Int) := by omega
    clear hi hs hq ho
    obtain ⟨x0, x1, x2, x3, x4⟩ := five_cells HSR.out.k0
    obtain ⟨y0, y1, y2, y3, y4⟩ := five_cells HSR.out.k2
    obtain ⟨l1, l2, l3⟩ := HSR.out.lt
    by_cases hlt : m < k
    · have hmi : (m : Int) < (k : Int) := by omega
      have hmp : m < t.parts.length := by have := HK.out; omega
      obtain ⟨g, off, An1, cn1, Ae1, ce1, Aq, cq, rfl, hty, hc5⟩ := HP.out.spot m hmp
      rw [HL.out] at hc5
      obtain ⟨hg, c0, c1, c2, c3, c4⟩ := hc5 wr HSR.out.b
      have HTK := Lib.hid (List.take_succ_eq_append_getElem hmp)
      have HLM := Lib.hid (show (t.parts.take m).length = m by rw [List.length_take]; omega)
      have hmem := List.getElem_mem hmp
      obtain ⟨p, hpe⟩ : ∃ p, t.parts[m]'hmp = p := ⟨_, rfl⟩
      rw [hpe] at c0 c1 c2 c3 c4 hty hmem HTK
      have HRE := Lib.hid (fun X (hX : Below wr.heap.size wr X) => HIH.out p hmem _ X (IsTy.below (by rw [HL.out]; exact (HSR.out.go hX).b) _ _ hty))
      clear hmem hpe hty hc5
      have hdr : Below wr.heap.size wr wr.drew := Below.drewN (Below.refl _ _) 1
      have HEND := Lib.hid (show ∀ (w5 W9 w9 : World) (A9 : Option Addr) (c9 : Nat), Below wr.heap.size wr W9 → Own RTy 26 5 M none w9 (.slice A9 (m + 1) c9) (t.parts.take m ++ [p]) → W9.grownBy w9 (Value.slice A m c).ownBlock →
          (OwnSt L W #[.int .i64 kd, .string ⟨nm.toArray⟩, .slice An nl cn, .slice Ae el ce, .slice (some ⟨g, off, none⟩) k cp] #[.int .i64 0, .string ⟨#[]⟩, .slice none 0 0, .slice none 0 0, .slice none 0 0] #[.int .i64 kd, .string ⟨nm.toArray⟩, .slice AN nl cN, .slice AE el cE, .slice A m c] w9) ∧
          (OwnSt L W #[.int .i64 kd, .string ⟨nm.toArray⟩, .slice An nl cn, .slice Ae el ce, .slice (some ⟨g, off, none⟩) k cp] #[.int .i64 0, .string ⟨#[]⟩, .slice none 0 0, .slice none 0 0, .slice none 0 0] #[.int .i64 kd, .string ⟨nm.toArray⟩, .slice AN nl cN, .slice AE el cE, .slice A9 (m + 1) c9] (w9.setCell ⟨L + 1 + 1, 4, none⟩ (.slice A9 (m + 1) c9))) ∧
          (∀ gg, L + 1 + 1 + 1 ≤ gg → gg < M → (w9.setCell ⟨L + 1 + 1, 4, none⟩ (.slice A9 (m + 1) c9)).heap[gg]? = w7.heap[gg]?) ∧
          Own RTy 26 5 M none (w9.setCell ⟨L + 1 + 1, 4, none⟩ (.slice A9 (m + 1) c9)) (.slice A9 (m + 1) c9) (t.parts.take (m + 1)) ∧ M ≤ (w9.setCell ⟨L + 1 + 1, 4, none⟩ (.slice A9 (m + 1) c9)).heap.size by
        intro w5 W9 w9 A9 c9 hb9 hown9 hgr9
        have hrl := fun j e => (Own.lt HO.out j e).1
        have hs9 := (HSR.out.go hb9).grown hgr9 (fun j e => by have := hrl j e; omega)
        have hset : ∀ gg, gg ≠ L + 1 + 1 → (w9.setCell ⟨L + 1 + 1, 4, none⟩ (.slice A9 (m + 1) c9)).heap[gg]? = w9.heap[gg]? := fun gg h => Below.heap_setCell _ _ _ _ h
        refine ⟨hs9, hs9.set 4 _, fun gg h1 h2 => ?_, ?_, ?_⟩
        · rw [hset gg (by omega), hgr9.block gg (by have := hb9.size; omega) (fun e => by have := hrl gg e.symm; omega), hb9.block gg (by omega)]
          exact HQR.out gg h1 h2
        · rw [HTK.out]
          exact hown9.keep RTy.sub fun gg _ h _ => hset gg (by omega)
        · have := hb9.size
          have := hgr9.size
          simp [World.setCell]
          omega)
      go_upto_region 7 with (fail)
      go_region_law (first
        | (refine stepPush (w := w5.alloc (.cells #[.int .i64 p.kind, .string ⟨p.name.toArray⟩, .slice B1 p.names.length d1, .slice B2 p.embeds.length d2, .slice B3 p.parts.length d3] 26)) RTy.sub rfl (.tmp 30) (.tmp 37) 24 rfl (Own.go RTy.sub HO.out HB9.out) HLM.out Tryz.underlying24 infoTy rfl (by decide) rfl rfl (c := 1) (k := w5.heap.size) rfl (by exact heap_alloc_new w5 _) rfl (by simp [Value.oneCell']) (B := wr.heap.size) HR9.out hz (by simp; omega) (fun b e => nomatch e) (fun b e => (Own.lt HO.out b e).2) (by omega) (by omega) ?_
           intro A9 c9 w9 hown9 hgr9
           obtain ⟨hs9, hfin⟩ := HEND.out w5 _ w9 A9 c9 HB9.out hown9 hgr9
           obtain ⟨y0, y1, y2, y3, y4⟩ := five_cells hs9.k2
           obtain ⟨f0, f1, f2, f3, f4⟩ := five_free hs9.k2
           obtain ⟨l1, l2, l3⟩ := hs9.lt
           have HFIN := Lib.hid hfin
           clear hown9 hgr9 hs9 hfin)
        | (go_simp
           go_at_call 26
           refine (HRE.out wr.drew hdr).mono ?_
           rintro e w5 ⟨v5, rfl, ht5, hb5⟩
           obtain ⟨B1, d1, B2, d2, B3, d3, rfl, -⟩ := id ht5.agg
           have hs5 := (HSR.out.go hdr).go hb5
           have hb9 : Below wr.heap.size wr (w5.alloc (.cells #[.int .i64 p.kind, .string ⟨p.name.toArray⟩, .slice B1 p.names.length d1, .slice B2 p.embeds.length d2, .slice B3 p.parts.length d3] 26)) := (hdr.trans hb5).alloc (hdr.trans hb5).size _
           have HB9 := Lib.hid hb9
           have HR9 := Lib.hid (show RTy (only (w5.alloc (.cells #[.int .i64 p.kind, .string ⟨p.name.toArray⟩, .slice B1 p.names.length d1, .slice B2 p.embeds.length d2, .slice B3 p.parts.length d3] 26)) (since wr.heap.size)) [.int .i64 p.kind, .string ⟨p.name.toArray⟩, .slice B1 p.names.length d1, .slice B2 p.embeds.length d2, .slice B3 p.parts.length d3] p from
             ⟨_, _, _, _, _, rfl, IsTy.sub (Sub.since_below (grown_below (World.grownBy_alloc w5 _ none))) _ _ ht5⟩)
           have hbs5 : wr.heap.size ≤ w5.heap.size := hb5.size
           obtain ⟨y0, y1, y2, y3, y4⟩ := five_cells hs5.k2
           obtain ⟨l1, l2, l3⟩ := hs5.lt
           clear ht5 hb5 hs5 hb9))
      all_goals
        obtain ⟨W10, hW10⟩ : ∃ W10, w9.setCell ⟨L + 1 + 1, 4, none⟩ (.slice A9 (m + 1) c9) = W10 := ⟨_, rfl⟩
        have hfin := HFIN.out
        rw [hW10] at hfin ⊢
        have HFN := Lib.hid hfin
        clear hW10 hfin
        go_wp2_with fail
        go_roundg (k - (m + 1))
        case measure => have := HI.out; omega
        case rel => exact ⟨m + 1, A9, c9, rfl, by simp, hlt, HFN.out⟩
    · have hmi : ¬ (m : Int) < (k : Int) := by omega
      have hfu := List.take_of_length_le (show t.parts.length ≤ m by have := HK.out; omega)
      have hres := HO.out
      rw [hfu] at hres
      obtain ⟨z0, z1, z2, z3, z4⟩ := five_cells HSR.out.k1
      obtain ⟨f0, f1, f2, f3, f4⟩ := five_free HSR.out.k1
      have HRES := Lib.hid hres
      clear hfu hres
      go_wp2_with fail
      obtain ⟨wz, hwz⟩ : ∃ wz, (((((wr.setCell ⟨L + 1, 0, none⟩ (.int .i64 kd)).setCell ⟨L + 1, 1, none⟩ (.string ⟨nm.toArray⟩)).setCell ⟨L + 1, 2, none⟩ (.slice AN nl cN)).setCell ⟨L + 1, 3, none⟩ (.slice AE el cE)).setCell ⟨L + 1, 4, none⟩ (.slice A m c)) = wz := ⟨_, rfl⟩
      rw [hwz]
      have hk1 := heap_setCell_same _ _ 4 _ _ (.slice A m c) (heap_setCell_same _ _ 3 _ _ (.slice AE el cE) (heap_setCell_same _ _ 2 _ _ (.slice AN nl cN) (heap_setCell_same _ _ 1 _ _ (.string ⟨nm.toArray⟩) (heap_setCell_same _ _ 0 _ _ (.int .i64 kd) HSR.out.k1))))
      have hbz : Below L W wz := by
        rw [← hwz]
        exact ((((HSR.out.b.setCell (by simp) _).setCell (by simp) _).setCell (by simp) _).setCell (by simp) _).setCell (by simp) _
      have hoth : ∀ gg, gg ≠ L + 1 → wz.heap[gg]? = wr.heap[gg]? := fun gg h => by
        rw [← hwz]
        exact (Below.heap_setCell _ _ _ _ h).trans ((Below.heap_setCell _ _ _ _ h).trans ((Below.heap_setCell _ _ _ _ h).trans ((Below.heap_setCell _ _ _ _ h).trans (Below.heap_setCell _ _ _ _ h))))
      rw [hwz] at hk1
      obtain ⟨q0, q1, q2, q3, q4⟩ := five_cells (show wz.heap[L + 1]? = some (.cells #[.int .i64 kd, .string ⟨nm.toArray⟩, .slice AN nl cN, .slice AE el cE, .slice A m c] 26 (0, 0)) from hk1)
      have hs7 : Sub (only w7 (since (L + 1 + 1 + 1))) (only wz (since L)) := only_keep fun gg hg hs => by
        have h1 := since_iff.1 hs
        refine ⟨since_iff.2 (by omega), ?_⟩
        rw [hoth gg (by omega)]
        exact HQR.out gg h1 (by have := HM.out; omega)
      have hsr : Sub (only wr (but M none none)) (only wz (since L)) := only_keep fun gg hg hs => by
        have h1 := (but_iff.1 hs).1
        refine ⟨since_iff.2 (by omega), ?_⟩
        rw [hoth gg (by omega)]
      refine bodyPost_ret (v := .agg #[.int .i64 kd, .string ⟨nm.toArray⟩, .slice AN nl cN, .slice AE el cE, .slice A m c]) (by simp [results, Tryz.results26, go_sem, q0, q1, q2, q3, q4]) rfl ⟨_, rfl, ?_, hbz⟩
      rw [HTT.out]
      exact IsTy.made2 (HQ7.out.sub hs7) (HR7.out.sub hs7) (HRES.out.tys.sub hsr)
theorem keepOwn : ∀ (n : Nat) (t : Sx.Ty), Sx.size t ≤ n → n ≤ 1000000 → OwnOk t
  | 0, t, h, _ => by have := Sx.size_pos t; omega
  | n + 1, t, h, h1 => keepOwn1 t (by omega) fun p hp => keepOwn n p (by
      have := Sx.size_mem hp
      have := Sx.size_parts t
      omega) (by omega)

end Go.Proofs.YtdncljdfmdgdaaaGreatDoor

namespace Go.Proofs.YtdncljdfmdgdaaaGreatDoor
open Go.RowKit Go.Shelf
set_option linter.unusedSimpArgs false
set_option linter.unusedVariables false

/-- A row of texts, read from its block's head. -/
def StrsIn (w : World) (v : Value) (l : List Lx.Bytes) : Prop :=
  ∃ g c cur fr, v = .slice (some ⟨g, 0, none⟩) l.length c ∧ w.heap[g]? = some (.cells cur 9 fr) ∧ cur.toList.take l.length = l.map (fun s => Value.string ⟨s.toArray⟩)
theorem StrsIn.below {w w' : World} {v : Value} {ts : List Lx.Bytes} (h : StrsIn w v ts) (hb : Below w.heap.size w w') : StrsIn w' v ts := by
  obtain ⟨g, c, cur, fr, h1, h2, h3⟩ := h
  exact ⟨g, c, cur, fr, h1, (hb.block g (lt_of_block h2)).trans h2, h3⟩
theorem strs_at {w : World} {ts : List Lx.Bytes} {g m : Nat} {cur : Array Value} {fr : Nat × Nat} (hg : w.heap[g]? = some (.cells cur 9 fr)) (hc : cur.toList.take ts.length = ts.map (fun s => Value.string ⟨s.toArray⟩)) (h : m < ts.length) :
    w.cell? ⟨g, m, none⟩ = some (.string ⟨(ts[m]'h).toArray⟩) := by
  rw [cell_of hg, ← Array.getElem?_toList, ← List.getElem?_take_of_lt (l := cur.toList) h, hc, List.getElem?_map, List.getElem?_eq_getElem h]
  rfl
theorem refWords (w : World) : Calls Tryz.prog 192 #[] w fun e w' =>
    e = .returned (.slice (some ⟨w.heap.size, 0, none⟩) 25 25) ∧ w' = w.alloc (.cells wordCells 9) := by
  go_enter Tryz.func192, Tryz.ntmps192
  go_wp2
  go_ret
  exact ⟨rfl, rfl⟩
theorem strsWords (w : World) : StrsIn (w.alloc (.cells wordCells 9)) (.slice (some ⟨w.heap.size, 0, none⟩) 25 25) Lx.words :=
  ⟨w.heap.size, 25, wordCells, (0, 0), rfl, heap_alloc_new w _, rfl⟩

set_option maxHeartbeats 4000000 in
theorem lawSameStr (ts us : List Lx.Bytes) (v u : Value) (w : World) (hv : StrsIn w v ts) (hu : StrsIn w u us) (hl : ts.length ≤ 1000000000) (hl2 : us.length ≤ 1000000000) :
    Calls Tryz.prog 16 #[v, u] w fun e w' => e = .returned (.bool (decide (ts = us))) ∧ Below w.heap.size w w' := by
  obtain ⟨g, c0, cur, fr, rfl, hgb, hcur⟩ := hv
  obtain ⟨g2, d0, cur2, fr2, rfl, hgb2, hcur2⟩ := hu
  have HA := Lib.hid hgb
  have HB := Lib.hid hgb2
  have HC := Lib.hid hcur
  have HD := Lib.hid hcur2
  clear hgb hgb2 hcur hcur2
  by_cases hlen : ts.length = us.length
  · have hb : ((ts.length : Int) != (us.length : Int)) = false := by simp [hlen]
    have HL := Lib.hid hlen
    clear hlen
    go_enter Tryz.func16, Tryz.ntmps16
    go_wp2
    go_loopg [5] (ts.length) (fun n v wr => ∃ (m : Nat), n = ts.length - m ∧ v = .int .i64 (m : Int) ∧ m ≤ ts.length ∧ ts.take m = us.take m ∧ Below w.heap.size w wr)
    case atStart => exact ⟨0, rfl, rfl, Nat.zero_le _, by simp, Below.refl _ _⟩
    case round =>
      obtain ⟨m, hn, rfl, hm, he, hbl⟩ := hrel
      have HN := Lib.hid hn
      have HE := Lib.hid he
      clear hn he
      by_cases hlt : m < ts.length
      · have hlt2 : m < us.length := by rw [← HL.out]; exact hlt
        have hi : (m : Int) < (ts.length : Int) := by omega
        have hi2 : (m : Int) < (us.length : Int) := by omega
        have hi0 : (0 : Int) ≤ (m : Int) := by omega
        have hmi : (m : Int) ≤ 1000000000 := by omega
        have hgb' := (hbl.block g (lt_of_block HA.out)).trans HA.out
        have hgb2' := (hbl.block g2 (lt_of_block HB.out)).trans HB.out
        have t0 := strs_at hgb' HC.out hlt
        have u0 := strs_at hgb2' HD.out hlt2
        have hgl := lt_of_block hgb'
        have hgl2 := lt_of_block hgb2'
        obtain ⟨t, ht⟩ : ∃ t, ts[m]'hlt = t := ⟨_, rfl⟩
        obtain ⟨x, hx⟩ : ∃ x, us[m]'hlt2 = x := ⟨_, rfl⟩
        rw [ht] at t0
        rw [hx] at u0
        have HT := Lib.hid ht
        have HX := Lib.hid hx
        clear ht hx hgb' hgb2'
        cases hq : (t == x) with
        | true =>
          have htx : t = x := by simpa using hq
          have HS := Lib.hid (take_step HE.out hlt hlt2 (by rw [HT.out, HX.out, htx]))
          clear htx
          go_wp2
          go_quiet (fail)
          go_wp2
          go_roundg (ts.length - (m + 1))
          case measure => have := HN.out; omega
          case rel => exact ⟨m + 1, rfl, by simp, hlt, HS.out, Below.drewN hbl _⟩
        | false =>
          have htx : t ≠ x := by simpa using hq
          have HS := Lib.hid (show decide (ts = us) = false by
            rw [decide_eq_false_iff_not]
            rintro rfl
            exact htx (HT.out.symm.trans HX.out))
          clear htx
          go_wp2
          go_quiet (fail)
          go_wp2
          go_ret
          rw [HS.out]
          exact ⟨rfl, Below.drewN hbl _⟩
      · have hi : ¬ (m : Int) < (ts.length : Int) := by omega
        have HS := Lib.hid (show decide (ts = us) = true by
          rw [decide_eq_true_eq]
          have h1 := HE.out
          rwa [List.take_of_length_le (by omega), List.take_of_length_le (by have := HL.out; omega)] at h1)
        go_wp2
        go_ret
        rw [HS.out]
        exact ⟨rfl, hbl⟩
  · have hb : ((ts.length : Int) != (us.length : Int)) = true := by simp; omega
    have HS := Lib.hid (show decide (ts = us) = false by
      rw [decide_eq_false_iff_not]
      rintro rfl
      exact hlen rfl)
    clear hlen
    go_enter Tryz.func16, Tryz.ntmps16
    go_wp2
    go_ret
    rw [HS.out]
    exact ⟨rfl, Below.refl _ _⟩

end Go.Proofs.YtdncljdfmdgdaaaGreatDoor
