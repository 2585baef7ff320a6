/-
  The walk of syntax.Stmts.
  Plain laws: how many tokens a tree has, by its size.
  Plain laws: what is told of a right tree is cut into tokens that, joined, are it.
  Plain laws: the texts of statements, one behind the other.
-/
import Derived.Test.YtdncljdfmdgdaaaGreatDoorM25
import Derived.Test.YtdncljdfmdgdaaaGreatDoorM22
import Derived.Test.YtdncljdfmdgdaaaGreatDoorM8
import Derived.Test.YtdncljdfmdgdaaaGreatDoorM19
namespace Go.Proofs.YtdncljdfmdgdaaaGreatDoor
open Go.RowKit Go.Shelf Go.WideMaps
set_option linter.unusedSimpArgs false
set_option linter.unusedVariables false

theorem Sx.okS_mem {d : Nat} {l : List Sx.St} (h : Sx.rightSs NM d l = true) : ∀ s ∈ l, Sx.okS s := fun s hs => ⟨d, Sx.rightSs_mem h s hs⟩
set_option maxRecDepth 100000 in
set_option maxHeartbeats 4000000 in
theorem synStmtsT (l : List Sx.St) (v : Value) (W : World) (hG : GS W) (hN : NG ≤ W.heap.size) (ht : StRow W v l) (hsz : Sx.sizeSs l ≤ 1000000) (hlen : (Sx.stmts SY l).length ≤ 900000000) :
    Calls Tryz.prog 24 #[v] W fun e W' => e = .returned (.tuple #[.string ⟨(Sx.said (Sx.rightSs NM 64 l) (Sx.stmts SY l)).1.toArray⟩, .int .i64 ((Sx.said (Sx.rightSs NM 64 l) (Sx.stmts SY l)).2 : Nat)]) ∧ Below W.heap.size W W' := by
  have hrt : ∀ X, Below W.heap.size W X → Calls Tryz.prog 65 #[v, .int .i64 64] X fun e W' => e = .returned (.bool (Sx.rightSs NM 64 l)) ∧ Below X.heap.size X W' := fun X hb => synRightSsAll 64 (by omega) l v X (hG.below hb) (Nat.le_trans hN hb.size) (ht.below hb) hsz
  have htyp := fun b w (hr : Sx.rightSs NM 64 l = true) (h : Wrote W b 0 [] w) => synStmtsAll (b := b) hG hN _ l (Nat.le_refl _) v [] w (Sx.okS_mem hr) ht hsz h (by simpa using hlen)
  obtain ⟨A, c, rfl, -, -⟩ := ht
  obtain ⟨L, hL⟩ : ∃ L, W.heap.size = L := ⟨_, rfl⟩
  obtain ⟨w3, hw3⟩ : ∃ w3, W.alloc (.cells #[.pointer none, .slice none 0 0, .int .i64 0] 104) = w3 := ⟨_, rfl⟩
  have htree : w3.heap[L]? = some (.cells #[.pointer none, .slice none 0 0, .int .i64 0] 104 (0, 0)) := by rw [← hw3, ← hL]; exact heap_alloc_new W _
  have hb3 : Below W.heap.size W w3 := by rw [← hw3]; exact grown_below (World.grownBy_alloc W _ none)
  have hs3 : L < w3.heap.size := lt_of_block htree
  have HFR := Lib.hid (show ∀ w4, Below w3.heap.size w3 w4 → Wrote W L 0 [] w4 ∧ L < w4.heap.size from fun w4 hb4 =>
    ⟨Wrote.fresh (by omega) ((hb4.block L hs3).trans htree) (hb3.trans (hb4.mono hb3.size)), Nat.lt_of_lt_of_le hs3 hb4.size⟩)
  have HRT := Lib.hid (hrt w3 hb3)
  have HTYP := Lib.hid htyp
  have HLN := Lib.hid hlen
  clear hrt htyp hlen hb3 htree hG hsz
  cases hr : Sx.rightSs NM 64 l with
  | false =>
    rw [hr] at HRT
    have HR := Lib.hid hr
    clear hr
    go_enter Tryz.func24, Tryz.ntmps24
    go_wp2_with (first
      | (go_at_call 65; refine HRT.out.mono ?_; rintro e w4 ⟨rfl, hb4⟩; obtain ⟨hW, hl4⟩ := HFR.out w4 hb4; have hW4 := Lib.hid hW; clear hb4 hW)
      | (go_at_call 60; refine (toldEnd hW4.out (by omega) false (fun _ => rfl)).mono ?_; rintro e w5 ⟨rfl, hb5⟩))
    refine bodyPost_ret (results_tmp2 rfl _ _ _) rfl ?_
    exact ⟨rfl, by first | exact hb5 | exact hL ▸ hb5⟩
  | true =>
    rw [hr] at HRT
    have HR := Lib.hid hr
    clear hr
    go_enter Tryz.func24, Tryz.ntmps24
    go_wp2_with (first
      | (go_at_call 65; refine HRT.out.mono ?_; rintro e w4 ⟨rfl, hb4⟩; obtain ⟨hW, hl4⟩ := HFR.out w4 hb4; have hW4 := Lib.hid hW; clear hb4 hW)
      | (go_at_call 66; refine (HTYP.out L w4 HR.out hW4.out).mono ?_; rintro e w5 ⟨rfl, h5, -⟩; have hl5 := h5.lt; have hW5 := Lib.hid h5; clear h5)
      | (go_at_call 60; refine (toldEnd hW5.out (by have := HLN.out; simp; omega) true (fun h => by cases h)).mono ?_; rintro e w6 ⟨rfl, hb6⟩))
    refine bodyPost_ret (results_tmp2 rfl _ _ _) rfl ?_
    exact ⟨rfl, by first | exact hb6 | exact hL ▸ hb6⟩

end Go.Proofs.YtdncljdfmdgdaaaGreatDoor

namespace Go.Proofs.YtdncljdfmdgdaaaGreatDoor
open Go.Proofs.YtdncljdfmdgdaaaGreatDoor.Lx (Bytes)
set_option linter.unusedSimpArgs false
set_option linter.unusedVariables false
namespace Sx
mutual
theorem typ_len : ∀ (t : Ty), (typ t).length + 3 ≤ 8 * size t
  | .mk k n ns es ps => by
    have h1 := typL_len ps
    have h2 := fields_len ns es ps
    have h3 := params_len 0 ps
    have h4 := methods_len ns ps
    rw [typ, size]
    split
    · simp; omega
    split
    · simp; omega
    split
    · simp; omega
    split
    · simp; omega
    split
    · simp; omega
    split
    · simp; omega
    split
    · simp; omega
    split
    · simp; omega
    · simp; omega
theorem typL_len : ∀ (l : List Ty), (typL l).length ≤ 8 * sizeL l
  | [] => by simp [typL]
  | t :: l => by
    rw [typL, sizeL]
    have := typ_len t
    omega
theorem fields_len : ∀ (ns : List Bytes) (es : List Bool) (l : List Ty), (fields ns es l).length ≤ 8 * sizeL l
  | ns, es, [] => by cases ns <;> cases es <;> simp [fields]
  | [], es, t :: l => by simp [fields]
  | n :: ns, [], t :: l => by simp [fields]
  | n :: ns, e :: es, t :: l => by
    rw [fields, sizeL]
    have h1 := typ_len t
    have h2 := fields_len ns es l
    simp only [List.length_append, List.length_cons, List.length_nil]
    split <;> simp <;> omega
theorem params_len : ∀ (i : Nat) (l : List Ty), (params i l).length ≤ 8 * sizeL l
  | i, [] => by simp [params]
  | i, t :: l => by
    rw [params, sizeL]
    have h1 := typ_len t
    have h2 := params_len (i + 1) l
    split
    · simp; omega
    · simp only [List.length_append]
      split <;> simp <;> omega
theorem methods_len : ∀ (ns : List Bytes) (l : List Ty), (methods ns l).length ≤ 8 * sizeL l
  | ns, [] => by cases ns <;> simp [methods]
  | [], t :: l => by simp [methods]
  | n :: ns, t :: l => by
    rw [methods, sizeL]
    have h1 := signature_len t
    have h2 := methods_len ns l
    simp only [List.length_append, List.length_cons, List.length_nil]
    omega
theorem signature_len : ∀ (t : Ty), (signature t).length + 2 ≤ 8 * size t
  | .mk k n ns es ps => by
    have h3 := params_len 0 ps
    rw [signature, size]
    simp
    omega
end
theorem len_ite {c : Prop} [Decidable c] {l m : List Bytes} {n : Nat} (h : c → l.length ≤ n) (k : ¬ c → m.length ≤ n) : (if c then l else m).length ≤ n := by
  split
  · exact h ‹_›
  · exact k ‹_›
mutual
theorem expr_len (S : Says) : ∀ (x : Ex), (expr S x).length + 4 ≤ 8 * sizeX x
  | .mk pos k n s t ns ps => by
    have h1 := typL_len t
    have h2 := record_len S 0 ns ps
    have h3 := firstArgs_len S 7 ps
    have h4 := applied_len S ps
    have h5 := first_len S 7 ps
    have h6 := first_len S 6 ps
    have h7 := both_len S (if level k = 3 then 4 else level k) (level k + 1) ps
    have key : (expr S (.mk pos k n s t ns ps)).length ≤ 4 + 8 * sizeXs ps + 8 * sizeL t := by
      rw [expr]
      refine len_ite (fun _ => ?_) fun _ => len_ite (fun _ => ?_) fun _ => len_ite (fun _ => ?_) fun _ => len_ite (fun _ => ?_) fun _ => len_ite (fun _ => ?_) fun _ => len_ite (fun _ => ?_) fun _ => len_ite (fun _ => ?_) fun _ =>
        len_ite (fun _ => ?_) fun _ => len_ite (fun _ => ?_) fun _ => len_ite (fun _ => ?_) fun _ => len_ite (fun _ => ?_) fun _ => len_ite (fun _ => ?_) fun _ => ?_
      all_goals simp only [List.length_append, List.length_cons, List.length_nil]
      all_goals try omega
      split <;> simp <;> omega
    rw [sizeX]
    omega
theorem first_len (S : Says) : ∀ (l : Nat) (ps : List Ex), (first S l ps).length ≤ 8 * sizeXs ps
  | l, [] => by simp [first]
  | l, x :: ps => by
    rw [first, sizeXs]
    have := expr_len S x
    split <;> simp <;> omega
theorem both_len (S : Says) : ∀ (l m : Nat) (ps : List Ex), (first S l ps).length + (second S m ps).length ≤ 8 * sizeXs ps
  | l, m, [] => by simp [first, second]
  | l, m, x :: ps => by
    rw [first, second, sizeXs]
    have := expr_len S x
    have := first_len S m ps
    split <;> simp <;> omega
theorem firstArgs_len (S : Says) : ∀ (l : Nat) (ps : List Ex), (first S l ps).length + (args S ps).length ≤ 8 * sizeXs ps
  | l, [] => by simp [first, args]
  | l, x :: ps => by
    rw [first, args, sizeXs]
    have := expr_len S x
    have := list_len S 0 ps
    split <;> simp <;> omega
theorem applied_len (S : Says) : ∀ (ps : List Ex), (applied S ps).length + (args S ps).length ≤ 8 * sizeXs ps
  | [] => by simp [applied, args]
  | x :: ps => by
    rw [applied, args, sizeXs]
    have := expr_len S x
    have := list_len S 0 ps
    split <;> simp <;> omega
theorem list_len (S : Says) : ∀ (i : Nat) (ps : List Ex), (list S i ps).length ≤ 8 * sizeXs ps
  | i, [] => by simp [list]
  | i, x :: ps => by
    rw [list, sizeXs]
    have := expr_len S x
    have := list_len S (i + 1) ps
    split <;> simp <;> omega
theorem record_len (S : Says) : ∀ (i : Nat) (ns : List Bytes) (ps : List Ex), (record S i ns ps).length ≤ 8 * sizeXs ps
  | i, [], ps => by simp [record]
  | i, n :: ns, [] => by simp [record]
  | i, n :: ns, x :: ps => by
    rw [record, sizeXs]
    have := expr_len S x
    have := record_len S (i + 1) ns ps
    split <;> simp <;> omega
end
mutual
theorem stmt_len (S : Says) : ∀ (s : St), (stmt S s).length + 1 ≤ 8 * sizeS s
  | .mk _ k nm t x b e => by
    have h1 := typL_len t
    have h2 := first_len S 0 x
    have h3 := stmts_len S b
    have h4 := stmts_len S e
    rw [stmt, sizeS]
    have hA : (if k = 1 then [[108, 101, 116], nm] ++ typL t ++ [[61]] else if k = 2 then [nm, [61]] else if k = 3 then [[112, 114, 105, 110, 116]] else if k = 4 then [[105, 102]]
      else if k = 5 then [[119, 104, 105, 108, 101]] else if k = 6 then [[114, 101, 116, 117, 114, 110]] else ([] : List Bytes)).length ≤ (if k = 4 ∨ k = 5 then 1 else 3 + (typL t).length) := by
      split
      · rename_i h; subst h; simp <;> omega
      split
      · rename_i h; subst h; simp <;> omega
      split
      · rename_i h; subst h; simp <;> omega
      split
      · rename_i h; subst h; simp <;> omega
      split
      · rename_i h; subst h; simp <;> omega
      split
      · rename_i h; subst h; simp <;> omega
      · simp
    have hB : (if k ≠ 4 ∧ k ≠ 5 then [[59]] else if e.isEmpty then [[123]] ++ stmts S b ++ [[125]]
      else [[123]] ++ stmts S b ++ [[125]] ++ [[101, 108, 115, 101]] ++ [[123]] ++ stmts S e ++ [[125]]).length ≤ (if k = 4 ∨ k = 5 then 5 + (stmts S b).length + (stmts S e).length else 1) := by
      by_cases hk : k = 4 ∨ k = 5
      · rw [if_pos hk, if_neg (by omega)]
        split <;> simp <;> omega
      · rw [if_neg hk, if_pos (by omega)]
        simp
    simp only [List.length_append] at hA hB ⊢
    by_cases hk : k = 4 ∨ k = 5
    · rw [if_pos hk] at hA hB
      omega
    · rw [if_neg hk] at hA hB
      omega
theorem stmts_len (S : Says) : ∀ (l : List St), (stmts S l).length ≤ 8 * sizeSs l
  | [] => by simp [stmts]
  | s :: l => by
    rw [stmts, sizeSs]
    have := stmt_len S s
    have := stmts_len S l
    simp
    omega
end
end Sx
end Go.Proofs.YtdncljdfmdgdaaaGreatDoor

namespace Go.Proofs.YtdncljdfmdgdaaaGreatDoor
open Go.Proofs.YtdncljdfmdgdaaaGreatDoor.Lx (Bytes)
set_option linter.unusedSimpArgs false
set_option linter.unusedVariables false

theorem Lx.written_bare (t : Lx.Tok) : Lx.written t.bare = Lx.written t := rfl
theorem Lx.joinFrom_bare : ∀ (l m : List Lx.Tok) (i : Nat) (b : Bytes), l.map Lx.Tok.bare = m.map Lx.Tok.bare → Lx.joinFrom i b l = Lx.joinFrom i b m
  | [], [], i, b, h => rfl
  | [], u :: m, i, b, h => by cases h
  | t :: l, [], i, b, h => by cases h
  | t :: l, u :: m, i, b, h => by
    rw [List.map_cons, List.map_cons] at h
    injection h with h1 h2
    have e : Lx.written t = Lx.written u := by rw [← Lx.written_bare t, h1, Lx.written_bare]
    rw [Lx.joinFrom, Lx.joinFrom, e, Lx.joinFrom_bare l m _ _ h2]
theorem Lx.join_bare {l m : List Lx.Tok} (h : l.map Lx.Tok.bare = m.map Lx.Tok.bare) : Lx.join l = Lx.join m := by
  have hl : l.length = m.length := by simpa using congrArg List.length h
  unfold Lx.join
  rw [Lx.joinFrom_bare l m 0 [] h, hl]

namespace Sx
/-- The text of a token. -/
def Tk (s : Bytes) : Prop := ∃ t : Lx.Tok, Lx.written t = (s, true)
theorem tk_list : ∀ {l : List Bytes}, (∀ s ∈ l, Tk s) → ∃ ts : List Lx.Tok, ts.map Lx.written = l.map fun s => (s, true)
  | [], h => ⟨[], rfl⟩
  | s :: l, h => by
    obtain ⟨t, ht⟩ := h s List.mem_cons_self
    obtain ⟨ts, hts⟩ := tk_list fun u hu => h u (List.mem_cons_of_mem _ hu)
    exact ⟨t :: ts, by rw [List.map_cons, List.map_cons, ht, hts]⟩
theorem text_join : ∀ (l : List Bytes) (ts : List Lx.Tok) (i : Nat) (b c : Bytes), ts.map Lx.written = l.map (fun s => (s, true)) → textFrom i b l = some c → b.length ≤ 65536 → Lx.joinFrom i b ts = some c ∧ c.length ≤ 65536
  | [], [], i, b, c, h, ht, hb => by
    rw [textFrom] at ht
    injection ht with ht
    subst ht
    exact ⟨rfl, hb⟩
  | [], t :: ts, i, b, c, h, ht, hb => by cases h
  | s :: l, [], i, b, c, h, ht, hb => by cases h
  | s :: l, t :: ts, i, b, c, h, ht, hb => by
    rw [List.map_cons, List.map_cons] at h
    injection h with h1 h2
    rw [textFrom] at ht
    by_cases hlen : 65536 < ((if 0 < i then b ++ [32] else b) ++ s).length
    · rw [if_pos hlen] at ht; cases ht
    · rw [if_neg hlen] at ht
      rw [Lx.joinFrom, h1]
      simp only [if_true]
      have e : Lx.joinStep i b s = (if 0 < i then b ++ [32] else b) ++ s := by
        unfold Lx.joinStep
        rw [if_neg (by omega)]
      rw [e]
      exact text_join l ts _ _ c h2 ht (by omega)
/-- What is told is cut into tokens that, joined, are it. -/
theorem text_back {l : List Bytes} {b : Bytes} (hl : ∀ s ∈ l, Tk s) (h : text l = (b, 0)) : (Lx.toks b).2 = none ∧ Lx.join (Lx.toks b).1 = (b, 0) := by
  obtain ⟨ts, hts⟩ := tk_list hl
  have hlen : ts.length = l.length := by simpa using congrArg List.length hts
  unfold text at h
  split at h
  · injection h with _ h; cases h
  · rename_i c hc
    split at h
    · injection h with _ h; cases h
    · rename_i hn
      injection h with h _
      subst h
      obtain ⟨h1, h2⟩ := text_join l ts 0 [] c hts hc (by simp)
      have hj : Lx.join ts = (c, 0) := by
        unfold Lx.join
        rw [h1]
        simp only
        rw [if_neg (by omega), if_neg (by omega)]
      obtain ⟨h3, h4⟩ := Lx.join_back hj
      exact ⟨h4, by rw [Lx.join_bare h3]; exact hj⟩

theorem Tk.ne {s : Bytes} (h : Tk s) : s ≠ [] := by
  obtain ⟨t, ht⟩ := h
  have hf := Lx.form_of_written (t := t) (by rw [ht])
  rw [ht] at hf
  obtain ⟨c, l, e, -⟩ := Lx.form_begins hf
  simp only at e
  rw [e]
  exact List.cons_ne_nil _ _
theorem tk_of_isTok {k : Int} (hk : k = 1 ∨ k = 2 ∨ k = 3) {s : Bytes} (h : isTok k s = true) : Tk s := by
  refine ⟨⟨0, k, s, 0⟩, ?_⟩
  have hw : (Lx.written ⟨0, k, s, 0⟩).2 = true := by
    cases h2 : (Lx.written ⟨0, k, s, 0⟩).2 with
    | true => rfl
    | false =>
      unfold isTok at h
      rw [Lx.join_one_bad h2] at h
      simp at h
  have hr : Lx.raw ⟨0, k, s, 0⟩ = some s := by
    unfold Lx.raw
    rw [if_pos (by simp only; omega)]
  have hf := Lx.form_raw (Lx.form_of_written hw)
  rw [Lx.raw_bare, hr] at hf
  injection hf with hf
  rw [Prod.ext_iff]
  exact ⟨hf.symm, hw⟩
theorem tk_small {s : Bytes} (h : NM.small s = true) : Tk s := tk_of_isTok (k := 1) (.inl rfl) h
theorem tk_great {s : Bytes} (h : NM.great s = true) : Tk s := tk_of_isTok (k := 2) (.inr (.inl rfl)) h
theorem tkInt : Tk [105, 110, 116] := ⟨⟨0, 3, [105, 110, 116], 0⟩, by kernel_rfl⟩
theorem tkBool : Tk [98, 111, 111, 108] := ⟨⟨0, 3, [98, 111, 111, 108], 0⟩, by kernel_rfl⟩
theorem tkText : Tk [116, 101, 120, 116] := ⟨⟨0, 3, [116, 101, 120, 116], 0⟩, by kernel_rfl⟩
theorem tkStar : Tk [42] := ⟨⟨0, 6, [42], 0⟩, by kernel_rfl⟩
theorem tkOpen : Tk [123] := ⟨⟨0, 6, [123], 0⟩, by kernel_rfl⟩
theorem tkShut : Tk [125] := ⟨⟨0, 6, [125], 0⟩, by kernel_rfl⟩
theorem tkParen : Tk [40] := ⟨⟨0, 6, [40], 0⟩, by kernel_rfl⟩
theorem tkEnd : Tk [41] := ⟨⟨0, 6, [41], 0⟩, by kernel_rfl⟩
theorem tkSemi : Tk [59] := ⟨⟨0, 6, [59], 0⟩, by kernel_rfl⟩
theorem tkComma : Tk [44] := ⟨⟨0, 6, [44], 0⟩, by kernel_rfl⟩
theorem tkColon : Tk [58] := ⟨⟨0, 6, [58], 0⟩, by kernel_rfl⟩
theorem tkDot : Tk [46] := ⟨⟨0, 6, [46], 0⟩, by kernel_rfl⟩
theorem tkIs : Tk [61] := ⟨⟨0, 6, [61], 0⟩, by kernel_rfl⟩
theorem tkEq : Tk [61, 61] := ⟨⟨0, 6, [61, 61], 0⟩, by kernel_rfl⟩
theorem tkLess : Tk [60] := ⟨⟨0, 6, [60], 0⟩, by kernel_rfl⟩
theorem tkPlus : Tk [43] := ⟨⟨0, 6, [43], 0⟩, by kernel_rfl⟩
theorem tkMinus : Tk [45] := ⟨⟨0, 6, [45], 0⟩, by kernel_rfl⟩
theorem tkFn : Tk [102, 110] := ⟨⟨0, 3, [102, 110], 0⟩, by kernel_rfl⟩
theorem tkIface : Tk [105, 110, 116, 101, 114, 102, 97, 99, 101] := ⟨⟨0, 3, [105, 110, 116, 101, 114, 102, 97, 99, 101], 0⟩, by kernel_rfl⟩
theorem tkEmbed : Tk [101, 109, 98, 101, 100] := ⟨⟨0, 3, [101, 109, 98, 101, 100], 0⟩, by kernel_rfl⟩
theorem tkTrue : Tk [116, 114, 117, 101] := ⟨⟨0, 3, [116, 114, 117, 101], 0⟩, by kernel_rfl⟩
theorem tkFalse : Tk [102, 97, 108, 115, 101] := ⟨⟨0, 3, [102, 97, 108, 115, 101], 0⟩, by kernel_rfl⟩
theorem tkSelf : Tk [115, 101, 108, 102] := ⟨⟨0, 3, [115, 101, 108, 102], 0⟩, by kernel_rfl⟩
theorem tkNil : Tk [110, 105, 108] := ⟨⟨0, 3, [110, 105, 108], 0⟩, by kernel_rfl⟩
theorem tkNew : Tk [110, 101, 119] := ⟨⟨0, 3, [110, 101, 119], 0⟩, by kernel_rfl⟩
theorem tkTo : Tk [116, 111] := ⟨⟨0, 3, [116, 111], 0⟩, by kernel_rfl⟩
theorem tkNot : Tk [110, 111, 116] := ⟨⟨0, 3, [110, 111, 116], 0⟩, by kernel_rfl⟩
theorem tkAnd : Tk [97, 110, 100] := ⟨⟨0, 3, [97, 110, 100], 0⟩, by kernel_rfl⟩
theorem tkOr : Tk [111, 114] := ⟨⟨0, 3, [111, 114], 0⟩, by kernel_rfl⟩
theorem tkLet : Tk [108, 101, 116] := ⟨⟨0, 3, [108, 101, 116], 0⟩, by kernel_rfl⟩
theorem tkPrint : Tk [112, 114, 105, 110, 116] := ⟨⟨0, 3, [112, 114, 105, 110, 116], 0⟩, by kernel_rfl⟩
theorem tkIf : Tk [105, 102] := ⟨⟨0, 3, [105, 102], 0⟩, by kernel_rfl⟩
theorem tkWhile : Tk [119, 104, 105, 108, 101] := ⟨⟨0, 3, [119, 104, 105, 108, 101], 0⟩, by kernel_rfl⟩
theorem tkReturn : Tk [114, 101, 116, 117, 114, 110] := ⟨⟨0, 3, [114, 101, 116, 117, 114, 110], 0⟩, by kernel_rfl⟩
theorem tkElse : Tk [101, 108, 115, 101] := ⟨⟨0, 3, [101, 108, 115, 101], 0⟩, by kernel_rfl⟩

/-! ### which tokens a list has -/
def Tks (l : List Bytes) : Prop := ∀ s ∈ l, Tk s
theorem Tks.nil : Tks [] := fun s h => by cases h
theorem Tks.cons {s : Bytes} {l : List Bytes} (h : Tk s) (hl : Tks l) : Tks (s :: l) := fun u hu => by
  rcases List.mem_cons.1 hu with rfl | hu
  · exact h
  · exact hl u hu
theorem Tks.app {l m : List Bytes} (h : Tks l) (k : Tks m) : Tks (l ++ m) := fun u hu => by
  rcases List.mem_append.1 hu with hu | hu
  · exact h u hu
  · exact k u hu
theorem Tks.ite {c : Prop} [Decidable c] {l m : List Bytes} (h : c → Tks l) (k : ¬ c → Tks m) : Tks (if c then l else m) := by
  split
  · exact h ‹_›
  · exact k ‹_›
theorem tks_fields : ∀ {ns : List Bytes} {es : List Bool} {ps : List Ty}, (∀ n ∈ ns, Tk n) → (∀ p ∈ ps, Tks (typ p)) → Tks (fields ns es ps)
  | [], es, ps, hn, hp => by rw [fields]; exact Tks.nil; simp
  | n :: ns, [], ps, hn, hp => by rw [fields]; exact Tks.nil; simp
  | n :: ns, e :: es, [], hn, hp => by rw [fields]; exact Tks.nil; simp
  | n :: ns, e :: es, t :: ps, hn, hp => by
    rw [fields]
    exact (((Tks.ite (fun _ => Tks.cons tkEmbed Tks.nil) (fun _ => Tks.nil))).app (((Tks.cons (hn n List.mem_cons_self) Tks.nil).app (hp t List.mem_cons_self)).app (Tks.cons tkSemi Tks.nil))).app
      (tks_fields (fun m hm => hn m (List.mem_cons_of_mem _ hm)) (fun p hq => hp p (List.mem_cons_of_mem _ hq)))
theorem tks_params : ∀ {ps : List Ty} {i : Nat}, (∀ p ∈ ps, Tks (typ p)) → Tks (params i ps)
  | [], i, hp => by rw [params]; exact Tks.nil
  | t :: ps, i, hp => by
    rw [params]
    refine Tks.ite (fun _ => (Tks.cons tkEnd Tks.nil).app (hp t List.mem_cons_self)) (fun _ => ?_)
    exact ((Tks.ite (fun _ => Tks.cons tkComma Tks.nil) (fun _ => Tks.nil)).app (hp t List.mem_cons_self)).app (tks_params fun p hq => hp p (List.mem_cons_of_mem _ hq))
theorem tks_methods : ∀ {ns : List Bytes} {ps : List Ty}, (∀ n ∈ ns, Tk n) → (∀ p ∈ ps, Tks (signature p)) → Tks (methods ns ps)
  | [], ps, hn, hp => by rw [methods]; exact Tks.nil; simp
  | n :: ns, [], hn, hp => by rw [methods]; exact Tks.nil; simp
  | n :: ns, t :: ps, hn, hp => by
    rw [methods]
    exact (((Tks.cons (hn n List.mem_cons_self) Tks.nil).app (hp t List.mem_cons_self)).app (Tks.cons tkSemi Tks.nil)).app (tks_methods (fun m hm => hn m (List.mem_cons_of_mem _ hm)) (fun p hq => hp p (List.mem_cons_of_mem _ hq)))
/-- A type's tokens, and its parameters' and result's. -/
theorem tks_typ2 : ∀ (n : Nat) (t : Ty), size t ≤ n → ∀ d, rightT NM d t = true → Tks (typ t) ∧ Tks (signature t) := by
  intro n
  induction n with
  | zero => intro t h; have := size_pos t; omega
  | succ n ih =>
    intro t hn d h
    cases t with
    | mk k nm ns es ps =>
      cases d with
      | zero => simp [rightT] at h
      | succ d =>
        rw [rightT, Bool.and_eq_true] at h
        obtain ⟨hr, hs⟩ := h
        have hmem : ∀ (l : List Ty), rightTs NM d l = true → ∀ p ∈ l, rightT NM d p = true := by
          intro l
          induction l with
          | nil => intro _ p hp; cases hp
          | cons u l ihl =>
            intro h p hp
            rw [rightTs, Bool.and_eq_true] at h
            rcases List.mem_cons.1 hp with rfl | hp
            · exact h.1
            · exact ihl h.2 p hp
        rw [size] at hn
        have hall : ∀ p ∈ ps, Tks (typ p) ∧ Tks (signature p) := fun p hp => ih p (by have := size_mem hp; omega) d (hmem ps hr p hp)
        have hp1 : ∀ p ∈ ps, Tks (typ p) := fun p hp => (hall p hp).1
        have hsig : Tks (signature (.mk k nm ns es ps)) := by
          rw [signature]
          exact (Tks.cons tkParen Tks.nil).app (tks_params hp1)
        refine ⟨?_, hsig⟩
        rw [typ]
        refine Tks.ite (fun _ => Tks.cons tkInt Tks.nil) fun e1 => Tks.ite (fun _ => Tks.cons tkBool Tks.nil) fun e2 => Tks.ite (fun _ => Tks.cons tkText Tks.nil) fun e3 => Tks.ite (fun e4 => ?_) fun e4 => Tks.ite (fun _ => ?_) fun e5 =>
          Tks.ite (fun e6 => ?_) fun e6 => Tks.ite (fun _ => ?_) fun e7 => Tks.ite (fun e8 => ?_) fun _ => Tks.nil
        · rw [shape, if_neg (by omega), if_pos e4] at hs
          simp only [Bool.and_eq_true] at hs
          exact Tks.cons (tk_great hs.1.1.1) Tks.nil
        · refine Tks.cons tkStar ?_
          cases ps with
          | nil => rw [typL]; exact Tks.nil
          | cons p ps => rw [typL]; exact hp1 p List.mem_cons_self
        · have hq : apart NM ns = true := by
            rw [shape, if_neg (by omega), if_neg e4, if_neg e5, if_neg (by omega), if_pos e6] at hs
            simp only [Bool.and_eq_true] at hs
            exact hs.2
          exact ((Tks.cons tkOpen Tks.nil).app (tks_fields (fun m hm => tk_small (apart_small hq m hm)) hp1)).app (Tks.cons tkShut Tks.nil)
        · exact (Tks.cons tkFn Tks.nil).app ((Tks.cons tkParen Tks.nil).app (tks_params hp1))
        · have hq : apart NM ns = true := by
            rw [shape, if_neg (by omega), if_neg e4, if_neg e5, if_neg e7, if_neg e6, if_pos e8] at hs
            simp only [Bool.and_eq_true] at hs
            exact hs.2.2
          exact ((Tks.cons tkIface (Tks.cons tkOpen Tks.nil)).app (tks_methods (fun m hm => tk_small (apart_small hq m hm)) (fun p hp => (hall p hp).2))).app (Tks.cons tkShut Tks.nil)
theorem tks_typ {t : Ty} {d : Nat} (h : rightT NM d t = true) : Tks (typ t) := (tks_typ2 _ t (Nat.le_refl _) d h).1

theorem tks_digits {n : Int} (h0 : 0 ≤ n) (h1 : n ≤ 9223372036854775807) : Tk (SY.digits n) := by
  have hf := Lx.number_form n.toNat (by omega)
  exact ⟨_, Lx.written_of_form (t := ⟨0, 4, [], n.toNat⟩) hf⟩
theorem tks_quote {s : Bytes} (h : NM.said s = true) : Tk (SY.quote s) := by
  have hw : (Lx.written ⟨0, 5, s, 0⟩).2 = true := by
    cases h2 : (Lx.written ⟨0, 5, s, 0⟩).2 with
    | true => rfl
    | false =>
      have h' : isTok 5 s = true := h
      unfold isTok at h'
      rw [Lx.join_one_bad h2] at h'
      simp at h'
  refine ⟨⟨0, 5, s, 0⟩, ?_⟩
  have hf := Lx.form_raw (Lx.form_of_written hw)
  have hr : Lx.raw ⟨0, 5, s, 0⟩ = some (Lx.quote s) := rfl
  rw [Lx.raw_bare, hr] at hf
  injection hf with hf
  rw [Prod.ext_iff]
  exact ⟨hf.symm, hw⟩
theorem tks_typL {l : List Ty} {d : Nat} (h : rightTs NM d l = true) : Tks (typL l) := by
  cases l with
  | nil => rw [typL]; exact Tks.nil
  | cons t l =>
    rw [rightTs, Bool.and_eq_true] at h
    rw [typL]
    exact tks_typ h.1
theorem tk_sign (k : Int) : Tk (sign k) := by
  unfold sign
  split
  · exact tkStar
  split
  · exact tkPlus
  split
  · exact tkMinus
  split
  · exact tkEq
  split
  · exact tkLess
  split
  · exact tkAnd
  · exact tkOr
theorem tks_first {l : List Ex} (n : Nat) (h : ∀ x ∈ l, Tks (expr SY x)) : Tks (first SY n l) := by
  cases l with
  | nil => rw [first]; exact Tks.nil
  | cons x l =>
    rw [first]
    exact Tks.ite (fun _ => ((Tks.cons tkParen Tks.nil).app (h x List.mem_cons_self)).app (Tks.cons tkEnd Tks.nil)) (fun _ => h x List.mem_cons_self)
theorem tks_second {l : List Ex} (n : Nat) (h : ∀ x ∈ l, Tks (expr SY x)) : Tks (second SY n l) := by
  cases l with
  | nil => rw [second]; exact Tks.nil
  | cons x l => rw [second]; exact tks_first n fun y hy => h y (List.mem_cons_of_mem _ hy)
theorem tks_applied {l : List Ex} (h : ∀ x ∈ l, Tks (expr SY x)) : Tks (applied SY l) := by
  cases l with
  | nil => rw [applied]; exact Tks.nil
  | cons x l =>
    rw [applied]
    exact Tks.ite (fun _ => ((Tks.cons tkParen Tks.nil).app (h x List.mem_cons_self)).app (Tks.cons tkEnd Tks.nil)) (fun _ => h x List.mem_cons_self)
theorem tks_listX : ∀ {l : List Ex} {i : Nat}, (∀ x ∈ l, Tks (expr SY x)) → Tks (list SY i l)
  | [], i, h => by rw [list]; exact Tks.nil
  | x :: l, i, h => by
    rw [list]
    exact ((Tks.ite (fun _ => Tks.cons tkComma Tks.nil) (fun _ => Tks.nil)).app (h x List.mem_cons_self)).app (tks_listX fun y hy => h y (List.mem_cons_of_mem _ hy))
theorem tks_args {l : List Ex} (h : ∀ x ∈ l, Tks (expr SY x)) : Tks (args SY l) := by
  cases l with
  | nil => rw [args]; exact Tks.nil
  | cons x l =>
    rw [args]
    exact ((Tks.cons tkParen Tks.nil).app (tks_listX fun y hy => h y (List.mem_cons_of_mem _ hy))).app (Tks.cons tkEnd Tks.nil)
theorem tks_record : ∀ {ns : List Bytes} {l : List Ex} {i : Nat}, (∀ n ∈ ns, Tk n) → (∀ x ∈ l, Tks (expr SY x)) → Tks (record SY i ns l)
  | [], l, i, hn, h => by rw [record]; exact Tks.nil; simp
  | n :: ns, [], i, hn, h => by rw [record]; exact Tks.nil; simp
  | n :: ns, x :: l, i, hn, h => by
    rw [record]
    exact (((Tks.ite (fun _ => Tks.cons tkComma Tks.nil) (fun _ => Tks.nil)).app (Tks.cons (hn n List.mem_cons_self) (Tks.cons tkColon Tks.nil))).app (h x List.mem_cons_self)).app
      (tks_record (fun m hm => hn m (List.mem_cons_of_mem _ hm)) (fun y hy => h y (List.mem_cons_of_mem _ hy)))
mutual
/-- Each number in it is one of the machine's. -/
def numX : Ex → Prop
  | .mk _ _ n _ _ _ ps => n ≤ 9223372036854775807 ∧ numXs ps
def numXs : List Ex → Prop
  | [] => True
  | x :: l => numX x ∧ numXs l
end
theorem numXs_mem : ∀ {l : List Ex}, numXs l → ∀ x ∈ l, numX x
  | u :: l, h, x, hx => by
    rw [numXs] at h
    rcases List.mem_cons.1 hx with rfl | hx
    · exact h.1
    · exact numXs_mem h.2 x hx
theorem numX_parts {x : Ex} (h : numX x) : x.n ≤ 9223372036854775807 ∧ ∀ p ∈ x.parts, numX p := by
  cases x
  rw [numX] at h
  exact ⟨h.1, numXs_mem h.2⟩
mutual
def numS : St → Prop
  | .mk _ _ _ _ x b e => numXs x ∧ numSs b ∧ numSs e
def numSs : List St → Prop
  | [] => True
  | s :: l => numS s ∧ numSs l
end
theorem numSs_mem : ∀ {l : List St}, numSs l → ∀ x ∈ l, numS x
  | u :: l, h, x, hx => by
    rw [numSs] at h
    rcases List.mem_cons.1 hx with rfl | hx
    · exact h.1
    · exact numSs_mem h.2 x hx
theorem tks_expr : ∀ (n : Nat) (x : Ex), sizeX x ≤ n → okX x → numX x → Tks (expr SY x) := by
  intro n
  induction n with
  | zero => intro x h; have := sizeX_pos x; omega
  | succ n ih =>
    intro x hn hok hmax
    obtain ⟨hs, hp⟩ := hok.shape
    obtain ⟨hxn, hnp⟩ := numX_parts hmax
    have hps : ∀ p ∈ x.parts, Tks (expr SY p) := fun p hm => ih p (by have := sizeX_mem hm; have := sizeX_parts x; omega) (hp p hm) (hnp p hm)
    unfold shapeX at hs
    simp only [Bool.and_eq_true] at hs
    obtain ⟨h1, h2, h3, h4, h5⟩ := hs
    have h1' : 1 ≤ x.kind ∧ x.kind ≤ 21 := by simpa using h1
    rw [expr_eq]
    refine Tks.ite (fun e => ?_) fun e1 => Tks.ite (fun e => ?_) fun e2 => Tks.ite (fun e => ?_) fun e3 => Tks.ite (fun e => ?_) fun e4 => Tks.ite (fun e => Tks.cons tkSelf Tks.nil) fun e5 => Tks.ite (fun e => ?_) fun e6 =>
      Tks.ite (fun e => ?_) fun e7 => Tks.ite (fun e => ?_) fun e9 => Tks.ite (fun e => ?_) fun e10 => Tks.ite (fun e => ?_) fun e11 => Tks.ite (fun e => ?_) fun e12 => Tks.ite (fun e => ?_) fun e13 => ?_
    · have h0 : 0 ≤ x.n := by
        simp only [Bool.or_eq_true, decide_eq_true_eq] at h3
        omega
      exact Tks.cons (tks_digits h0 hxn) Tks.nil
    · rw [if_pos e] at h2
      exact Tks.cons (tks_quote h2) Tks.nil
    · refine Tks.cons ?_ Tks.nil
      split
      · exact tkTrue
      · exact tkFalse
    · rw [if_neg e2, if_pos (.inl e)] at h2
      exact Tks.cons (tk_small h2) Tks.nil
    · rw [if_pos (.inl e), Bool.and_eq_true] at h4
      exact Tks.cons tkNil (tks_typL h4.2)
    · rw [if_neg e2, if_neg (by omega), if_pos e] at h2
      rw [if_pos e, Bool.and_eq_true] at h5
      exact (((Tks.ite (fun _ => Tks.cons tkNew Tks.nil) (fun _ => Tks.nil)).app (Tks.cons (tk_great h2) (Tks.cons tkOpen Tks.nil))).app (tks_record (fun m hm => tk_small (apart_small h5.2 m hm)) hps)).app (Tks.cons tkShut Tks.nil)
    · rw [if_neg e2, if_pos (by omega)] at h2
      exact (tks_first 7 hps).app (Tks.cons tkDot (Tks.cons (tk_small h2) Tks.nil))
    · rw [if_neg e2, if_pos (by omega)] at h2
      exact ((tks_first 7 hps).app (Tks.cons tkDot (Tks.cons (tk_small h2) Tks.nil))).app (tks_args hps)
    · exact (tks_applied hps).app (tks_args hps)
    · rw [if_pos (.inr e), Bool.and_eq_true] at h4
      exact ((tks_first 7 hps).app (Tks.cons tkTo Tks.nil)).app (tks_typL h4.2)
    · refine Tks.cons ?_ (tks_first 6 hps)
      split
      · exact tkMinus
      · exact tkNot
    · exact ((tks_first _ hps).app (Tks.cons (tk_sign _) Tks.nil)).app (tks_second _ hps)
theorem tks_ex {x : Ex} (h : okX x) (hn : numX x) : Tks (expr SY x) := tks_expr _ x (Nat.le_refl _) h hn
mutual
theorem tks_stmt : ∀ (s : St) (d : Nat), rightS NM d s = true → numS s → Tks (stmt SY s) ∧ stmt SY s ≠ []
  | .mk pos k nm t x b e, 0, h, hn => by simp [rightS] at h
  | .mk pos k nm t x b e, d + 1, h, hn => by
    rw [rightS, Bool.and_eq_true, Bool.and_eq_true] at h
    obtain ⟨hs, hb, he⟩ := h
    rw [numS] at hn
    have hbT := tks_stmts b d hb hn.2.1
    have heT := tks_stmts e d he hn.2.2
    unfold shapeS at hs
    simp only [Bool.and_eq_true] at hs
    obtain ⟨⟨h1, h2, h3⟩, h4, h5, h6⟩ := hs
    have hx : ∀ y ∈ x, Tks (expr SY y) := fun y hy => by
      refine tks_ex ?_ (numXs_mem hn.1 y hy)
      rcases rightXs_mem h3 y hy with h | h <;> exact ⟨_, h⟩
    have ht : Tks (typL t) := by
      simp only [Bool.or_eq_true, Bool.and_eq_true] at h5
      rcases h5 with h5 | h5
      · cases t with
        | nil => rw [typL]; exact Tks.nil
        | cons u l => simp at h5
      · exact tks_typL h5.2.2
    have hbr : Tks ([[123]] ++ stmts SY b ++ [[125]]) := ((Tks.cons tkOpen Tks.nil).app hbT).app (Tks.cons tkShut Tks.nil)
    rw [stmt]
    refine ⟨(Tks.app ?_ (tks_first 0 hx)).app ?_, ?_⟩
    · refine Tks.ite (fun e => ?_) fun e1 => Tks.ite (fun e => ?_) fun e2 => Tks.ite (fun _ => Tks.cons tkPrint Tks.nil) fun _ => Tks.ite (fun _ => Tks.cons tkIf Tks.nil) fun _ => Tks.ite (fun _ => Tks.cons tkWhile Tks.nil) fun _ => Tks.ite (fun _ => Tks.cons tkReturn Tks.nil) fun _ => Tks.nil
      · rw [if_pos (.inl e)] at h4
        exact ((Tks.cons tkLet (Tks.cons (tk_small h4) Tks.nil)).app ht).app (Tks.cons tkIs Tks.nil)
      · rw [if_pos (.inr e)] at h4
        exact Tks.cons (tk_small h4) (Tks.cons tkIs Tks.nil)
    · refine Tks.ite (fun _ => Tks.cons tkSemi Tks.nil) fun _ => Tks.ite (fun _ => hbr) fun _ => ?_
      exact (((hbr.app (Tks.cons tkElse Tks.nil)).app (Tks.cons tkOpen Tks.nil)).app heT).app (Tks.cons tkShut Tks.nil)
    · intro h
      have h9 := (List.append_eq_nil_iff.1 h).2
      split at h9
      · cases h9
      · split at h9 <;> simp at h9
theorem tks_stmts : ∀ (l : List St) (d : Nat), rightSs NM d l = true → numSs l → Tks (stmts SY l)
  | [], d, h, hn => by rw [stmts]; exact Tks.nil
  | s :: l, d, h, hn => by
    rw [rightSs, Bool.and_eq_true] at h
    rw [numSs] at hn
    rw [stmts]
    exact (tks_stmt s d h.1 hn.1).1.app (tks_stmts l d h.2 hn.2)
end

/-! ### the texts of several, one behind the other -/
theorem textFrom_len : ∀ (l : List Bytes) (i : Nat) (b c : Bytes), textFrom i b l = some c → b.length ≤ 65536 → b.length ≤ c.length ∧ c.length ≤ 65536
  | [], i, b, c, h, hb => by
    rw [textFrom] at h
    injection h with h
    subst h
    exact ⟨Nat.le_refl _, hb⟩
  | s :: l, i, b, c, h, hb => by
    rw [textFrom] at h
    by_cases hl : 65536 < ((if 0 < i then b ++ [32] else b) ++ s).length
    · rw [if_pos hl] at h; cases h
    · rw [if_neg hl] at h
      obtain ⟨h1, h2⟩ := textFrom_len l _ _ c h (by omega)
      refine ⟨Nat.le_trans ?_ h1, h2⟩
      rw [List.length_append]
      split <;> simp <;> omega
theorem textFrom_append : ∀ (l m : List Bytes) (i : Nat) (b : Bytes), textFrom i b (l ++ m) = (textFrom i b l).bind fun c => textFrom (i + l.length) c m
  | [], m, i, b => rfl
  | s :: l, m, i, b => by
    rw [List.cons_append, textFrom, textFrom]
    by_cases hl : 65536 < ((if 0 < i then b ++ [32] else b) ++ s).length
    · rw [if_pos hl, if_pos hl]; rfl
    · rw [if_neg hl, if_neg hl, textFrom_append l m (i + 1)]
      rw [show i + 1 + l.length = i + (s :: l).length by rw [List.length_cons]; omega]
/-- What stands ahead doesn't matter. -/
theorem textFrom_shift : ∀ (m : List Bytes) (i j : Nat) (b d c : Bytes), 0 < i → 0 < j → textFrom i (d ++ b) m = some c → (d ++ b).length ≤ 65536 → ∃ x, c = d ++ x ∧ textFrom j b m = some x
  | [], i, j, b, d, c, hi, hj, h, hb => by
    rw [textFrom] at h
    injection h with h
    subst h
    exact ⟨b, rfl, by rw [textFrom]⟩
  | s :: m, i, j, b, d, c, hi, hj, h, hb => by
    rw [textFrom] at h
    rw [if_pos hi] at h
    split at h
    · cases h
    · rename_i hl
      have e : (d ++ b ++ [32] ++ s : Bytes) = d ++ (b ++ [32] ++ s) := by simp
      rw [e] at h hl
      obtain ⟨x, hx, h2⟩ := textFrom_shift m (i + 1) (j + 1) _ d c (by omega) (by omega) h (by omega)
      refine ⟨x, hx, ?_⟩
      rw [textFrom, if_pos hj, if_neg (by rw [List.length_append] at hl; omega)]
      exact h2
theorem textFrom_fresh (m : List Bytes) (hm : m ≠ []) (i : Nat) (d c : Bytes) (hi : 0 < i) (h : textFrom i d m = some c) (hb : d.length ≤ 65536) : ∃ x, c = d ++ [32] ++ x ∧ textFrom 0 [] m = some x := by
  cases m with
  | nil => exact absurd rfl hm
  | cons s m =>
    rw [textFrom, if_pos hi] at h
    split at h
    · cases h
    · rename_i hl
      obtain ⟨x, hx, h2⟩ := textFrom_shift m (i + 1) 1 s (d ++ [32]) c (by omega) (by omega) h (by omega)
      refine ⟨x, hx, ?_⟩
      have e0 : ((if 0 < 0 then ([] : Bytes) ++ [32] else []) ++ s) = s := rfl
      rw [textFrom, e0, if_neg (by rw [List.length_append] at hl; omega)]
      exact h2
/-- A text of two parts. -/
theorem text_append {l m : List Bytes} {b : Bytes} (hl : l ≠ []) (hm : m ≠ []) (h : text (l ++ m) = (b, 0)) : ∃ c d, text l = (c, 0) ∧ text m = (d, 0) ∧ b = c ++ [32] ++ d := by
  unfold text at h
  split at h
  · injection h with _ h; cases h
  · rename_i b' hb
    split at h
    · injection h with _ h; cases h
    · rename_i hn
      injection h with h _
      subst h
      rw [textFrom_append] at hb
      obtain ⟨c, h1, h2⟩ := Option.bind_eq_some_iff.1 hb
      have hcl := (textFrom_len l 0 [] c h1 (by simp)).2
      rw [Nat.zero_add] at h2
      obtain ⟨d, h3, h4⟩ := textFrom_fresh m hm _ c b' (List.length_pos_iff.2 hl) h2 hcl
      rw [List.length_append] at hn
      refine ⟨c, d, ?_, ?_, h3⟩
      · unfold text
        rw [h1]
        simp only
        rw [if_neg (by omega)]
      · unfold text
        rw [h4]
        simp only
        rw [if_neg (by omega)]
theorem text_nil : text [] = ([], 0) := rfl
end Sx

mutual
theorem IsEx.num {W : World} : ∀ (t : Sx.Ex) (v : Value), IsEx W v t → Sx.numX t
  | .mk pos k n s t ns ps, v, h => by
    rw [IsEx] at h
    obtain ⟨vt, vn, A0, c0, hv, h0, h1, a0, b0, e0, e1⟩ := h
    rw [Sx.numX]
    exact ⟨e1, IsExs.num ps A0 0 b0⟩
theorem IsExs.num {W : World} : ∀ (l : List Sx.Ex) (A : Option Addr) (i : Nat), IsExs W A i l → Sx.numXs l
  | [], A, i, h => by rw [Sx.numXs]; trivial
  | t :: l, A, i, h => by
    rw [IsExs] at h
    obtain ⟨⟨g, off, v0, v1, v2, v3, v4, v5, v6, hA, k0, k1, k2, k3, k4, k5, k6, ht⟩, hl⟩ := h
    rw [Sx.numXs]
    exact ⟨IsEx.num t _ ht, IsExs.num l A (i + 1) hl⟩
end
theorem ExRow.num {W : World} {v : Value} {l : List Sx.Ex} (h : ExRow W v l) : Sx.numXs l := by
  obtain ⟨A, c, rfl, hc, hl⟩ := h
  exact IsExs.num l A 0 hl
mutual
theorem IsSt.num {W : World} : ∀ (t : Sx.St) (v : Value), IsSt W v t → Sx.numS t
  | .mk pos k nm t x b e, v, h => by
    rw [IsSt] at h
    obtain ⟨vt, vx, A0, c0, A1, c1, hv, h0, h1, a0, b0, a1, b1⟩ := h
    rw [Sx.numS]
    exact ⟨h1.num, IsSts.num b A0 0 b0, IsSts.num e A1 0 b1⟩
theorem IsSts.num {W : World} : ∀ (l : List Sx.St) (A : Option Addr) (i : Nat), IsSts W A i l → Sx.numSs l
  | [], A, i, h => by rw [Sx.numSs]; trivial
  | t :: l, A, i, h => by
    rw [IsSts] at h
    obtain ⟨⟨g, off, v0, v1, v2, v3, v4, v5, v6, hA, k0, k1, k2, k3, k4, k5, k6, ht⟩, hl⟩ := h
    rw [Sx.numSs]
    exact ⟨IsSt.num t _ ht, IsSts.num l A (i + 1) hl⟩
end
theorem StRow.num {W : World} {v : Value} {l : List Sx.St} (h : StRow W v l) : Sx.numSs l := by
  obtain ⟨A, c, rfl, hc, hl⟩ := h
  exact IsSts.num l A 0 hl

end Go.Proofs.YtdncljdfmdgdaaaGreatDoor

namespace Go.Proofs.YtdncljdfmdgdaaaGreatDoor
open Go.Proofs.YtdncljdfmdgdaaaGreatDoor.Lx (Bytes)
set_option linter.unusedSimpArgs false
set_option linter.unusedVariables false
namespace Sx
theorem said_text {l : List Bytes} {r : Bool} {b : Bytes} (hl : r = true → Tks l) (h : said r l = (b, 0)) : r = true ∧ text l = (b, 0) := by
  unfold said at h
  cases r with
  | false => simp at h
  | true =>
    simp only [if_true] at h
    rw [told_text (fun s hs => (hl rfl s hs).ne)] at h
    exact ⟨rfl, h⟩
theorem said_of_text {l : List Bytes} {b : Bytes} (hl : Tks l) (h : text l = (b, 0)) : said true l = (b, 0) := by
  unfold said
  simp only [if_true]
  rw [told_text (fun s hs => (hl s hs).ne)]
  exact h
theorem stmts_cat (S : Says) : ∀ (l m : List St), stmts S (l ++ m) = stmts S l ++ stmts S m
  | [], m => by simp [stmts]
  | s :: l, m => by rw [List.cons_append, stmts, stmts, stmts_cat S l m, List.append_assoc]
theorem rightSs_memb {d : Nat} : ∀ {l : List St}, rightSs NM d l = true → ∀ s ∈ l, rightS NM d s = true
  | s :: l, h, x, hx => by
    rw [rightSs, Bool.and_eq_true] at h
    rcases List.mem_cons.1 hx with rfl | hx
    · exact h.1
    · exact rightSs_memb h.2 x hx
theorem text_len {l : List Bytes} {b : Bytes} (h : text l = (b, 0)) : b.length ≤ 65536 := by
  unfold text at h
  split at h
  · injection h with _ h; cases h
  · rename_i c hc
    split at h
    · injection h with _ h; cases h
    · injection h with h _
      subst h
      exact (textFrom_len l 0 [] c hc (by simp)).2
/-- One statement more. -/
theorem stmts_step {l : List St} {b al : Bytes} {i : Nat} (hi : i < l.length) (hr : rightSs NM 64 l = true) (hn : numSs l) (h : text (stmts SY l) = (b, 0)) (ha : text (stmts SY (l.take i)) = (al, 0)) (h0 : i = 0 → al = []) :
    ∃ one, said (rightSs NM 64 [l[i]]) (stmts SY [l[i]]) = (one, 0) ∧ text (stmts SY (l.take (i + 1))) = ((if 0 < i then al ++ [32] else al) ++ one, 0) := by
  have hmem := List.getElem_mem hi
  have hri := rightSs_memb hr _ hmem
  obtain ⟨htk, hne⟩ := tks_stmt l[i] 64 hri (numSs_mem hn _ hmem)
  have e1 : stmts SY (l.take (i + 1)) = stmts SY (l.take i) ++ stmt SY l[i] := by
    rw [List.take_succ_eq_append_getElem hi, stmts_cat, stmts, stmts, List.append_nil]
  have e2 : stmts SY l = stmts SY (l.take (i + 1)) ++ stmts SY (l.drop (i + 1)) := by rw [← stmts_cat, List.take_append_drop]
  have hne2 : stmts SY (l.take (i + 1)) ≠ [] := by
    rw [e1]
    intro h
    exact hne (List.append_eq_nil_iff.1 h).2
  obtain ⟨c, hc⟩ : ∃ c, text (stmts SY (l.take (i + 1))) = (c, 0) := by
    by_cases hd : stmts SY (l.drop (i + 1)) = []
    · rw [hd, List.append_nil] at e2
      exact ⟨b, by rw [← e2]; exact h⟩
    · rw [e2] at h
      obtain ⟨c, d, h1, -, -⟩ := text_append hne2 hd h
      exact ⟨c, h1⟩
  have hone : ∀ one, text (stmt SY l[i]) = (one, 0) → said (rightSs NM 64 [l[i]]) (stmts SY [l[i]]) = (one, 0) := by
    intro one h1
    have hrr : rightSs NM 64 [l[i]] = true := by rw [rightSs, rightSs, hri]; rfl
    rw [hrr, stmts, stmts, List.append_nil]
    exact said_of_text htk h1
  by_cases hi0 : 0 < i
  · have hp : stmts SY (l.take i) ≠ [] := by
      obtain ⟨j, rfl⟩ : ∃ j, i = j + 1 := ⟨i - 1, by omega⟩
      rw [List.take_succ_eq_append_getElem (by omega), stmts_cat, stmts, stmts, List.append_nil]
      intro h
      have hm2 := List.getElem_mem (show j < l.length by omega)
      exact (tks_stmt l[j] 64 (rightSs_memb hr _ hm2) (numSs_mem hn _ hm2)).2 (List.append_eq_nil_iff.1 h).2
    rw [e1] at hc ⊢
    obtain ⟨c1, d1, h1, h2, h3⟩ := text_append hp hne hc
    rw [ha] at h1
    injection h1 with h1 _
    subst h1
    refine ⟨d1, hone _ h2, ?_⟩
    rw [hc, if_pos hi0, h3]
  · obtain rfl : i = 0 := by omega
    have hal := h0 rfl
    subst hal
    rw [e1] at hc ⊢
    simp only [List.take_zero, stmts, List.nil_append] at hc ⊢
    exact ⟨c, hone _ hc, by rw [hc]; rfl⟩
end Sx
end Go.Proofs.YtdncljdfmdgdaaaGreatDoor
