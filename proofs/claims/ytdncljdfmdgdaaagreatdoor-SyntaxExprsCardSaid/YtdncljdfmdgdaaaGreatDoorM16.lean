/-
  The walk of syntax.Names.
-/
import Derived.Test.YtdncljdfmdgdaaaGreatDoorM1
import Derived.Test.YtdncljdfmdgdaaaGreatDoorM11
import Derived.Test.YtdncljdfmdgdaaaGreatDoorM14
import Derived.Test.YtdncljdfmdgdaaaGreatDoorM12
import Derived.Deep.RegionHeld3
set_option linter.unusedSimpArgs false
set_option linter.unusedVariables false
set_option maxRecDepth 100000
set_option maxHeartbeats 8000000
namespace Go.Proofs.YtdncljdfmdgdaaaGreatDoor
open Go.RowKit Go.WideMaps
theorem OwnS.row {w:World} {B:Nat} {v:Value} {l:List Lx.Bytes} (h:OwnS w B v l):StrRow w v l:=by
 obtain⟨A,c,hv⟩:=h.slice
 refine⟨A,c,hv,fun i hi=>?_⟩
 rcases h.2 with⟨h1,h0⟩ | ⟨g,cap,cur,h1,_,h2,_,_,_,h3⟩
 ·omega
 ·rw[hv]at h1
  injection h1 with h1 _ _
  refine⟨g,0,h1,?_⟩
  rw[zdZ h2,Nat.zero_add,←Array.getElem?_toList,←List.getElem?_take_of_lt (l:=cur.toList) (j:=l.length * 1) (by omega),h3]
  simp[strsV,hi]
theorem zrhZ (l:List Sx.Ty) (v:Value) (W:World) (hn:Sx.sizeL l≤1000000) (hv:TyRow W v l) :
  Calls Tryz.prog 17 #[v] W fun e W'=>∃A,e=.returned (.slice A (Sx.once [] (Sx.allNamesL l)).length (Sx.once [] (Sx.allNamesL l)).length)∧StrRow W' (.slice A (Sx.once [] (Sx.allNamesL l)).length (Sx.once [] (Sx.allNamesL l)).length) (Sx.once [] (Sx.allNamesL l))∧Below W.heap.size W W':=by
 have H6:=@run_makeMap Tryz.prog
 obtain⟨A,c,rfl,hcap,hl⟩:=hv
 have hv:TyRow W (.slice A l.length c) l:=⟨A,c,rfl,hcap,hl⟩
 have HV:=zh hv
 clear hv hl
 obtain⟨L,hL⟩:=zE (W.heap.size)
 have H0:∀X,(((W.alloc (.cells #[.slice none 0 0] 22)).alloc (.map #[] 0)).alloc (.cells #[.map (some (W.heap.size+1))] 107))=X→Met W.heap.size W.heap.size (W.heap.size+1+1) (W.heap.size+1) [] X∧Below W.heap.size W X:=by
  rintro X rfl
  refine⟨⟨Nat.le_refl _,by omega,by omega,⟨.slice none 0 0,((Boxed.new W _ _).alloc _).alloc _,World.ownsRow_nil _ _ _ _⟩,?_,0,.map [],Nat.le_refl _,?_,Maps.isMap_empty,fun s=>rfl⟩,?_⟩
  ·have:=Boxed.new ((W.alloc (.cells #[.slice none 0 0] 22)).alloc (.map #[] 0)) 107 (.map (some (W.heap.size+1)))
   simpa using this
  ·have:=(World.ownsMap_made (W.alloc (.cells #[.slice none 0 0] 22)) Tryz.prog 9 (plainElem (H:=Unit) Tryz.prog 3)).alloc (.cells #[.map (some (W.heap.size+1))] 107)
   simpa using this
  ·exact(((Below.refl _ W).alloc (Nat.le_refl _) _).alloc (by simp) _).alloc (by simp;omega) _
 have H2:=zh H0
 clear H0
 go_enter Tryz.func17, Tryz.ntmps17
 obtain⟨X,hX⟩:=zE ((((W.alloc (.cells #[.slice none 0 0] 22)).alloc (.map #[] 0)).alloc (.cells #[.map (some (L+1))] 107)))
 have hh:=H2.o X (by rw[←hX,hL])
 have hcall:=zndZ W W.heap.size (W.heap.size+1+1) (W.heap.size+1) (Sx.sizeL l) l _ [] X (Nat.le_refl _) (by simpa using hn) HV.o hh.2 hh.1
 rw[hL]at hcall
 have HC:=zh hcall
 clear hcall hh
 go_wp2_with fail
 refine HC.o.mono ?_
 rintro e W3 ⟨rfl,⟨-,-,-,⟨u,H1,ho⟩,-,-⟩,H3,-⟩
 have cL:=H1.cell
 have H7:=H1.lt
 rw[List.nil_append]at ho
 obtain⟨A',c',rfl⟩:=ho.slice
 have HO:=zh ho
 have H4:=zh H3
 obtain⟨r,hr⟩:=zE (Sx.once [] (Sx.allNamesL l))
 have HR:=zh hr
 have H8:r.length≤1000000:=by
  have:=Sx.once_len (Sx.allNamesL l) []
  have:=Sx.namesL_size l
  rw[←hr]
  simp at *
  omega
 have Ha:r.length≤c':=by
  rcases ho.2 with⟨h1,h0⟩ | ⟨g,cap,cur,h1,_,_,h2,_⟩
  ·rw[hr]at h0;omega
  ·rw[hr]at h1 h2;injection h1 with _ _ h1;omega
 have H5:(r.length:Int)≤(c':Int):=by omega
 have H9:(0:Int)≤(r.length:Int):=by omega
 rw[hr]at cL
 clear ho H1 H3 hr
 go_wp2_with fail
 go_ret
 rw[HR.o]
 refine⟨A',rfl,?_,by rw[hL];exact H4.o⟩
 obtain⟨A1,c1,h1,h2⟩:=HO.o.row
 rw[HR.o]at h1 h2
 injection h1 with h1 _ _
 subst h1
 exact⟨A',r.length,rfl,h2⟩
end Go.Proofs.YtdncljdfmdgdaaaGreatDoor
namespace Go.Proofs.YtdncljdfmdgdaaaGreatDoor
open Go.RowKit Go.Shelf
theorem Sub.since_mono {W:World} {B B':Nat} (h:B'≤B):Sub (only W (since B)) (only W (since B')):=zxZ fun g hg hs=>⟨zvZ.2 (by have:=zvZ.1 hs;omega),rfl⟩
theorem Sub.since_keep {W W':World} {B:Nat} (h:∀g,g<W.heap.size→B≤g→W'.heap[g]? =W.heap[g]?):Sub (only W (since B)) (only W' (since B)):=zxZ fun g hg hs=>⟨hs,h g hg (zvZ.1 hs)⟩
structure OwnSt (L:Nat) (W:World) (c0 c1 c2:Array Value) (w:World):Prop where
 b:Below L W w
 k0:w.heap[L]? =some (.cells c0 26 (0,0))
 k1:w.heap[L+1]? =some (.cells c1 26 (0,0))
 k2:w.heap[L+1+1]? =some (.cells c2 26 (0,0))
theorem OwnSt.go {L:Nat} {W w w':World} {c0 c1 c2:Array Value} (h:OwnSt L W c0 c1 c2 w) (hb:Below w.heap.size w w'):OwnSt L W c0 c1 c2 w':=
 have hl:=zaZ h.k2
 ⟨h.b.trans (hb.mono (by omega)),(hb.block _ (by omega)).trans h.k0,(hb.block _ (by omega)).trans h.k1,(hb.block _ hl).trans h.k2⟩
theorem OwnSt.grown {L:Nat} {W w w':World} {c0 c1 c2:Array Value} (h:OwnSt L W c0 c1 c2 w) {r:Option Nat} (hg:w.grownBy w' r) (hr:∀j,r=some j→L+1+1+1≤j):OwnSt L W c0 c1 c2 w':=
 have hl:=zaZ h.k2
 ⟨h.b.grown hg (by omega) (fun j e=>by have:=hr j e;omega),(hg.block _ (by omega) (fun e=>by have:=hr _ e.symm;omega)).trans h.k0,(hg.block _ (by omega) (fun e=>by have:=hr _ e.symm;omega)).trans h.k1,(hg.block _ hl (fun e=>by have:=hr _ e.symm;omega)).trans h.k2⟩
theorem OwnSt.set {L:Nat} {W w:World} {c0 c1 c2:Array Value} (h:OwnSt L W c0 c1 c2 w) (j:Nat) (v:Value):OwnSt L W c0 c1 (c2.setIfInBounds j v) (w.setCell ⟨L+1+1,j,none⟩ v):=
 ⟨h.b.setCell (by simp;omega) v,(Below.heap_setCell _ _ _ _ (by simp;omega)).trans h.k0,(Below.heap_setCell _ _ _ _ (by simp)).trans h.k1,heap_setCell_same _ _ _ _ _ _ h.k2⟩
theorem OwnSt.lt {L:Nat} {W w:World} {c0 c1 c2:Array Value} (h:OwnSt L W c0 c1 c2 w):L<w.heap.size∧L+1<w.heap.size∧L+1+1<w.heap.size:=⟨zaZ h.k0,zaZ h.k1,zaZ h.k2⟩
theorem Sub.since_set {L j:Nat} {w:World} {v:Value} : Sub (only w (since (L+1+1+1))) (only (w.setCell ⟨L+1+1,j,none⟩ v) (since (L+1+1+1))):=Sub.since_keep fun g _ hB=>Below.heap_setCell _ _ _ _ (by simp;omega)
theorem Sub.since_below {w w':World} {B:Nat} (h:Below w.heap.size w w'):Sub (only w (since B)) (only w' (since B)):=Sub.since_keep fun g hg _=>h.block g hg
theorem zdvZ {w:World} {g t:Nat} {cs:Array Value} (h:w.heap[g]? =some (.cells cs t (0,0))):w.frozen? ⟨g,0,none⟩=false∧w.frozen? ⟨g,1,none⟩=false∧w.frozen? ⟨g,2,none⟩=false∧w.frozen? ⟨g,3,none⟩=false∧w.frozen? ⟨g,4,none⟩=false:=
 ⟨ztZ h 0,ztZ h 1,ztZ h 2,ztZ h 3,ztZ h 4⟩
theorem IsTy.made2 {w:World} {k:Int} {nm:Lx.Bytes} {vn ve vp:Value} {ns:List Lx.Bytes} {es:List Bool} {ps:List Sx.Ty} (h1:StrRow w vn ns) (h2:BoolRow w ve es) (h3:TyRow w vp ps) :
  IsTy w (.agg #[.int .i64 k,.string ⟨nm.toArray⟩,vn,ve,vp]) (.mk k nm ns es ps):=by
 obtain⟨A,c,rfl,hc,hl⟩:=h3
 rw[IsTy]
 exact⟨vn,ve,A,c,rfl,h1,h2,hc,hl⟩
def OwnOk (t:Sx.Ty):Prop:=∀(v:Value) (W:World),IsTy W v t→
 Calls Tryz.prog 26 #[v] W fun e W'=>∃v',e=.returned v'∧IsTy (only W' (since W.heap.size)) v' t∧Below W.heap.size W W'
theorem zriZ (t : Sx.Ty) (hsz : Sx.size t ≤ 1000000) (ih : ∀ p ∈ t.parts, OwnOk p) : OwnOk t := by
  intro v W ht
  obtain ⟨An, cn, Ae, ce, Ap, cp, rfl, Hr, Hq, hp⟩ := ht.agg
  have J0 := Sx.size_parts t
  have J2 := Sx.length_size t.parts
  obtain ⟨nl, Ht⟩ := zE (t.names.length)
  obtain ⟨el, Hx⟩ := zE (t.embeds.length)
  obtain ⟨k, hk⟩ := zE (t.parts.length)
  obtain ⟨kd, Hz⟩ := zE (t.kind)
  obtain ⟨nm, Ha⟩ := zE (t.name)
  rw [Ht] at Hr J0
  rw [Hx] at Hq J0
  rw [hk] at hp J2
  rw [Hz, Ha, Ht, Hx, hk]
  have n1 : nl ≤ 1000000 := by omega
  have e1 : el ≤ 1000000 := by omega
  have k0 : (0 : Int) ≤ (k : Int) := by omega
  have k1 : (k : Int) ≤ 1000000 := by omega
  obtain ⟨L, hL⟩ := zE (W.heap.size)
  have Jt := zh Hr
  have Jk := zh Hq
  have HP := zh hp
  have Jm := zh ih
  have HK := zh hk
  have Jz := zh (show k ≤ 1000000 by omega)
  have HL := zh hL
  have Jx := zh (show t = .mk kd nm t.names t.embeds t.parts by cases t; subst Hz Ha; rfl)
  clear Hr Hq hp ih hk Hz Ha Ht Hx J0 J2 hsz ht
  go_enter Tryz.func26, Tryz.ntmps26
  go_upto_region 2 with (fail)
  obtain ⟨w3, H4⟩ := zE (((W.alloc (.cells #[.int .i64 kd, .string ⟨nm.toArray⟩, .slice An nl cn, .slice Ae el ce, .slice Ap k cp] 26)).alloc (.cells #[.int .i64 0, .string ⟨#[]⟩, .slice none 0 0, .slice none 0 0, .slice none 0 0] 26)).alloc (.cells #[.int .i64 kd, .string ⟨nm.toArray⟩, .slice none 0 0, .slice none 0 0, .slice none 0 0] 26))
  rw [H4]
  have Jd : OwnSt L W #[.int .i64 kd, .string ⟨nm.toArray⟩, .slice An nl cn, .slice Ae el ce, .slice Ap k cp] #[.int .i64 0, .string ⟨#[]⟩, .slice none 0 0, .slice none 0 0, .slice none 0 0] #[.int .i64 kd, .string ⟨nm.toArray⟩, .slice none 0 0, .slice none 0 0, .slice none 0 0] w3 := by
    subst hL
    refine ⟨?_, ?_, ?_, ?_⟩
    · rw [← H4]
      exact (((Below.refl _ W).alloc (Nat.le_refl _) _).alloc (by simp) _).alloc (by simp; omega) _
    · rw [← H4]
      exact heap_alloc (heap_alloc (heap_alloc_new W _) _) _
    · rw [← H4]
      have := heap_alloc_new (W.alloc (.cells #[.int .i64 kd, .string ⟨nm.toArray⟩, .slice An nl cn, .slice Ae el ce, .slice Ap k cp] 26)) (.cells #[.int .i64 0, .string ⟨#[]⟩, .slice none 0 0, .slice none 0 0, .slice none 0 0] 26)
      rw [show (W.alloc (.cells #[.int .i64 kd, .string ⟨nm.toArray⟩, .slice An nl cn, .slice Ae el ce, .slice Ap k cp] 26)).heap.size = W.heap.size + 1 by simp] at this
      exact heap_alloc this _
    · rw [← H4]
      have := heap_alloc_new ((W.alloc (.cells #[.int .i64 kd, .string ⟨nm.toArray⟩, .slice An nl cn, .slice Ae el ce, .slice Ap k cp] 26)).alloc (.cells #[.int .i64 0, .string ⟨#[]⟩, .slice none 0 0, .slice none 0 0, .slice none 0 0] 26)) (.cells #[.int .i64 kd, .string ⟨nm.toArray⟩, .slice none 0 0, .slice none 0 0, .slice none 0 0] 26)
      rw [show ((W.alloc (.cells #[.int .i64 kd, .string ⟨nm.toArray⟩, .slice An nl cn, .slice Ae el ce, .slice Ap k cp] 26)).alloc (.cells #[.int .i64 0, .string ⟨#[]⟩, .slice none 0 0, .slice none 0 0, .slice none 0 0] 26)).heap.size = W.heap.size + 1 + 1 by simp] at this
      exact this
  have Hi : w3.heap.size = L + 1 + 1 + 1 := by rw [← H4, ← hL]; simp
  have HS := zh Jd
  have Jy := zh Hi
  clear H4 Jd Hi
  obtain ⟨x0, x1, x2, x3, x4⟩ := zcZ HS.o.k0
  obtain ⟨y0, y1, y2, y3, y4⟩ := zcZ HS.o.k2
  obtain ⟨l1, l2, l3⟩ := HS.o.lt
  go_upto_region 3 with (first
    | (at_builtin; refine zdbZ rfl _ _ rfl rfl rfl (Jt.o.below (by rw [HL.o]; exact HS.o.b)) n1 ?_; intro AN cN w4 Hs Jf; have He := HS.o.go Jf; obtain ⟨m1, m2, m3⟩ := He.lt; obtain ⟨f0, f1, f2, f3, f4⟩ := zdvZ He.k2; obtain ⟨q0, q1, q2, q3, q4⟩ := zcZ He.k2))
  obtain ⟨w5, Hf⟩ := zE (w4.setCell ⟨L + 1 + 1, 2, none⟩ (.slice AN nl cN))
  rw [Hf]
  have H8 := He.set 2 (.slice AN nl cN)
  rw [Hf] at H8
  have J7 : StrRow (only w5 (since (L + 1 + 1 + 1))) (.slice AN nl cN) t.names := by
    rw [Jy.o] at Hs
    rw [← Hf]
    exact Hs.sub Sub.since_set
  have Jl : L + 1 + 1 + 1 ≤ w5.heap.size := by rw [← Hf]; simp [World.setCell]; omega
  have Hh := zh H8
  have Ju := zh J7
  clear He H8 Hs J7 Jf Hf f0 f1 f2 f3 f4 q0 q1 q2 q3 q4 m1 m2 m3 x0 x1 x2 x3 x4 y0 y1 y2 y3 y4 l1 l2 l3
  obtain ⟨x0, x1, x2, x3, x4⟩ := zcZ Hh.o.k0
  obtain ⟨y0, y1, y2, y3, y4⟩ := zcZ Hh.o.k2
  obtain ⟨l1, l2, l3⟩ := Hh.o.lt
  go_upto_region 4 with (first
    | (at_builtin; refine zezZ rfl _ _ rfl rfl rfl (Jk.o.below (by rw [HL.o]; exact Hh.o.b)) e1 ?_; intro AE cE w6 J6 Hm; have Hk := Hh.o.go Hm; obtain ⟨m1, m2, m3⟩ := Hk.lt; obtain ⟨f0, f1, f2, f3, f4⟩ := zdvZ Hk.k2; obtain ⟨q0, q1, q2, q3, q4⟩ := zcZ Hk.k2))
  obtain ⟨w7, Hc⟩ := zE (w6.setCell ⟨L + 1 + 1, 3, none⟩ (.slice AE el cE))
  rw [Hc]
  have Hb := Hk.set 3 (.slice AE el cE)
  rw [Hc] at Hb
  have Je : BoolRow (only w7 (since (L + 1 + 1 + 1))) (.slice AE el cE) t.embeds := by
    rw [← Hc]
    exact (J6.sub (Sub.since_mono Jl)).sub Sub.since_set
  have J4 : StrRow (only w7 (since (L + 1 + 1 + 1))) (.slice AN nl cN) t.names := by
    rw [← Hc]
    exact (Ju.o.sub (Sub.since_below Hm)).sub Sub.since_set
  have Jh : L + 1 + 1 + 1 ≤ w7.heap.size := by have := Hm.size; rw [← Hc]; simp [World.setCell]; omega
  have Jv := zh Hb
  have Jw := zh Je
  have Js := zh J4
  clear Hk Hb J6 Je J4 Hm Hc f0 f1 f2 f3 f4 q0 q1 q2 q3 q4 m1 m2 m3 x0 x1 x2 x3 x4 y0 y1 y2 y3 y4 l1 l2 l3
  go_wp2_with fail
  obtain ⟨M, hM⟩ := zE (w7.heap.size)
  have HM := zh hM
  rw [hM] at Jh
  clear hM
  go_loopg [4] k (fun i v wr => ∃ (m : Nat) (A : Option Addr) (c : Nat), i = k - m ∧ v = .int .i64 (m : Nat) ∧ m ≤ k ∧ OwnSt L W #[.int .i64 kd, .string ⟨nm.toArray⟩, .slice An nl cn, .slice Ae el ce, .slice Ap k cp] #[.int .i64 0, .string ⟨#[]⟩, .slice none 0 0, .slice none 0 0, .slice none 0 0] #[.int .i64 kd, .string ⟨nm.toArray⟩, .slice AN nl cN, .slice AE el cE, .slice A m c] wr ∧
    (∀ gg, L + 1 + 1 + 1 ≤ gg → gg < M → wr.heap[gg]? = w7.heap[gg]?) ∧ Own RTy 26 5 M none wr (.slice A m c) (t.parts.take m) ∧ M ≤ wr.heap.size)
  case atStart => exact ⟨0, none, 0, rfl, rfl, Nat.zero_le _, Jv.o, fun _ _ _ => rfl, Own.nil, Nat.le_of_eq HM.o.symm⟩
  case round =>
    obtain ⟨m, A, c, hi, rfl, hm, hs, hq, ho, hz⟩ := hrel
    have HI := zh hi
    have H3 := zh hs
    have J8 := zh hq
    have HO := zh ho
    have m0 : (0 : Int) ≤ (m : Int) := by omega
    clear hi hs hq ho
    obtain ⟨x0, x1, x2, x3, x4⟩ := zcZ H3.o.k0
    obtain ⟨y0, y1, y2, y3, y4⟩ := zcZ H3.o.k2
    obtain ⟨l1, l2, l3⟩ := H3.o.lt
    by_cases hlt : m < k
    · have Jo : (m : Int) < (k : Int) := by omega
      have Hn : m < t.parts.length := by have := HK.o; omega
      obtain ⟨g, off, An1, cn1, Ae1, ce1, Aq, cq, rfl, Hp, Hy⟩ := HP.o.spot m Hn
      rw [HL.o] at Hy
      obtain ⟨hg, c0, c1, c2, c3, c4⟩ := Hy wr H3.o.b
      have J9 := zh (List.take_succ_eq_append_getElem Hn)
      have Jp := zh (show (t.parts.take m).length = m by rw [List.length_take]; omega)
      have H7 := List.getElem_mem Hn
      obtain ⟨p, Jb⟩ := zE (t.parts[m]'Hn)
      rw [Jb] at c0 c1 c2 c3 c4 Hp H7 J9
      have Jq := zh (fun X (hX : Below wr.heap.size wr X) => Jm.o p H7 _ X (IsTy.below (by rw [HL.o]; exact (H3.o.go hX).b) _ _ Hp))
      clear H7 Jb Hp Hy
      have Hl : Below wr.heap.size wr wr.drew := Below.drewN (Below.refl _ _) 1
      have Hw := zh (show ∀ (w5 W9 w9 : World) (A9 : Option Addr) (c9 : Nat), Below wr.heap.size wr W9 → Own RTy 26 5 M none w9 (.slice A9 (m + 1) c9) (t.parts.take m ++ [p]) → W9.grownBy w9 (Value.slice A m c).ownBlock →
          (OwnSt L W #[.int .i64 kd, .string ⟨nm.toArray⟩, .slice An nl cn, .slice Ae el ce, .slice (some ⟨g, off, none⟩) k cp] #[.int .i64 0, .string ⟨#[]⟩, .slice none 0 0, .slice none 0 0, .slice none 0 0] #[.int .i64 kd, .string ⟨nm.toArray⟩, .slice AN nl cN, .slice AE el cE, .slice A m c] w9) ∧
          (OwnSt L W #[.int .i64 kd, .string ⟨nm.toArray⟩, .slice An nl cn, .slice Ae el ce, .slice (some ⟨g, off, none⟩) k cp] #[.int .i64 0, .string ⟨#[]⟩, .slice none 0 0, .slice none 0 0, .slice none 0 0] #[.int .i64 kd, .string ⟨nm.toArray⟩, .slice AN nl cN, .slice AE el cE, .slice A9 (m + 1) c9] (w9.setCell ⟨L + 1 + 1, 4, none⟩ (.slice A9 (m + 1) c9))) ∧
          (∀ gg, L + 1 + 1 + 1 ≤ gg → gg < M → (w9.setCell ⟨L + 1 + 1, 4, none⟩ (.slice A9 (m + 1) c9)).heap[gg]? = w7.heap[gg]?) ∧
          Own RTy 26 5 M none (w9.setCell ⟨L + 1 + 1, 4, none⟩ (.slice A9 (m + 1) c9)) (.slice A9 (m + 1) c9) (t.parts.take (m + 1)) ∧ M ≤ (w9.setCell ⟨L + 1 + 1, 4, none⟩ (.slice A9 (m + 1) c9)).heap.size by
        intro w5 W9 w9 A9 c9 H9 H0 H1
        have J3 := fun j e => (Own.lt HO.o j e).1
        have H6 := (H3.o.go H9).grown H1 (fun j e => by have := J3 j e; omega)
        have Hg : ∀ gg, gg ≠ L + 1 + 1 → (w9.setCell ⟨L + 1 + 1, 4, none⟩ (.slice A9 (m + 1) c9)).heap[gg]? = w9.heap[gg]? := fun gg h => Below.heap_setCell _ _ _ _ h
        refine ⟨H6, H6.set 4 _, fun gg h1 h2 => ?_, ?_, ?_⟩
        · rw [Hg gg (by omega), H1.block gg (by have := H9.size; omega) (fun e => by have := J3 gg e.symm; omega), H9.block gg (by omega)]
          exact J8.o gg h1 h2
        · rw [J9.o]
          exact H0.keep RTy.sub fun gg _ h _ => Hg gg (by omega)
        · have := H9.size
          have := H1.size
          simp [World.setCell]
          omega)
      go_upto_region 7 with (fail)
      go_region_law (first
        | (refine zrbZ (w := w5.alloc (.cells #[.int .i64 p.kind, .string ⟨p.name.toArray⟩, .slice B1 p.names.length d1, .slice B2 p.embeds.length d2, .slice B3 p.parts.length d3] 26)) RTy.sub rfl (.tmp 30) (.tmp 37) 24 rfl (Own.go RTy.sub HO.o Ja.o) Jp.o Tryz.underlying24 zocZ rfl (by decide) rfl rfl (c := 1) (k := w5.heap.size) rfl (by exact heap_alloc_new w5 _) rfl (by simp [Value.oneCell']) (B := wr.heap.size) Ji.o hz (by simp; omega) (fun b e => nomatch e) (fun b e => (Own.lt HO.o b e).2) (by omega) (by omega) ?_
           intro A9 c9 w9 H0 H1
           obtain ⟨H6, H2⟩ := Hw.o w5 _ w9 A9 c9 Ja.o H0 H1
           obtain ⟨y0, y1, y2, y3, y4⟩ := zcZ H6.k2
           obtain ⟨f0, f1, f2, f3, f4⟩ := zdvZ H6.k2
           obtain ⟨l1, l2, l3⟩ := H6.lt
           have Hu := zh H2
           clear H0 H1 H6 H2)
        | (go_simp
           go_at_call 26
           refine (Jq.o wr.drew Hl).mono ?_
           rintro e w5 ⟨v5, rfl, J1, Hj⟩
           obtain ⟨B1, d1, B2, d2, B3, d3, rfl, -⟩ := id J1.agg
           have H8 := (H3.o.go Hl).go Hj
           have H9 : Below wr.heap.size wr (w5.alloc (.cells #[.int .i64 p.kind, .string ⟨p.name.toArray⟩, .slice B1 p.names.length d1, .slice B2 p.embeds.length d2, .slice B3 p.parts.length d3] 26)) := (Hl.trans Hj).alloc (Hl.trans Hj).size _
           have Ja := zh H9
           have Ji := zh (show RTy (only (w5.alloc (.cells #[.int .i64 p.kind, .string ⟨p.name.toArray⟩, .slice B1 p.names.length d1, .slice B2 p.embeds.length d2, .slice B3 p.parts.length d3] 26)) (since wr.heap.size)) [.int .i64 p.kind, .string ⟨p.name.toArray⟩, .slice B1 p.names.length d1, .slice B2 p.embeds.length d2, .slice B3 p.parts.length d3] p from
             ⟨_, _, _, _, _, rfl, IsTy.sub (Sub.since_below (zeZ (World.grownBy_alloc w5 _ none))) _ _ J1⟩)
           have Jj : wr.heap.size ≤ w5.heap.size := Hj.size
           obtain ⟨y0, y1, y2, y3, y4⟩ := zcZ H8.k2
           obtain ⟨l1, l2, l3⟩ := H8.lt
           clear J1 Hj H8 H9))
      all_goals
        obtain ⟨W10, hW10⟩ := zE (w9.setCell ⟨L + 1 + 1, 4, none⟩ (.slice A9 (m + 1) c9))
        have H2 := Hu.o
        rw [hW10] at H2 ⊢
        have Jr := zh H2
        clear hW10 H2
        go_wp2_with fail
        go_roundg (k - (m + 1))
        case measure => have := HI.o; omega
        case rel => exact ⟨m + 1, A9, c9, rfl, by simp, hlt, Jr.o⟩
    · have Jo : ¬ (m : Int) < (k : Int) := by omega
      have J5 := List.take_of_length_le (show t.parts.length ≤ m by have := HK.o; omega)
      have H5 := HO.o
      rw [J5] at H5
      obtain ⟨z0, z1, z2, z3, z4⟩ := zcZ H3.o.k1
      obtain ⟨f0, f1, f2, f3, f4⟩ := zdvZ H3.o.k1
      have Hv := zh H5
      clear J5 H5
      go_wp2_with fail
      obtain ⟨wz, Ho⟩ := zE ((((((wr.setCell ⟨L + 1, 0, none⟩ (.int .i64 kd)).setCell ⟨L + 1, 1, none⟩ (.string ⟨nm.toArray⟩)).setCell ⟨L + 1, 2, none⟩ (.slice AN nl cN)).setCell ⟨L + 1, 3, none⟩ (.slice AE el cE)).setCell ⟨L + 1, 4, none⟩ (.slice A m c)))
      rw [Ho]
      have Jc := heap_setCell_same _ _ 4 _ _ (.slice A m c) (heap_setCell_same _ _ 3 _ _ (.slice AE el cE) (heap_setCell_same _ _ 2 _ _ (.slice AN nl cN) (heap_setCell_same _ _ 1 _ _ (.string ⟨nm.toArray⟩) (heap_setCell_same _ _ 0 _ _ (.int .i64 kd) H3.o.k1))))
      have Jn : Below L W wz := by
        rw [← Ho]
        exact ((((H3.o.b.setCell (by simp) _).setCell (by simp) _).setCell (by simp) _).setCell (by simp) _).setCell (by simp) _
      have Hd : ∀ gg, gg ≠ L + 1 → wz.heap[gg]? = wr.heap[gg]? := fun gg h => by
        rw [← Ho]
        exact (Below.heap_setCell _ _ _ _ h).trans ((Below.heap_setCell _ _ _ _ h).trans ((Below.heap_setCell _ _ _ _ h).trans ((Below.heap_setCell _ _ _ _ h).trans (Below.heap_setCell _ _ _ _ h))))
      rw [Ho] at Jc
      obtain ⟨q0, q1, q2, q3, q4⟩ := zcZ (show wz.heap[L + 1]? = some (.cells #[.int .i64 kd, .string ⟨nm.toArray⟩, .slice AN nl cN, .slice AE el cE, .slice A m c] 26 (0, 0)) from Jc)
      have Hb : Sub (only w7 (since (L + 1 + 1 + 1))) (only wz (since L)) := zxZ fun gg hg hs => by
        have h1 := zvZ.1 hs
        refine ⟨zvZ.2 (by omega), ?_⟩
        rw [Hd gg (by omega)]
        exact J8.o gg h1 (by have := HM.o; omega)
      have Jg : Sub (only wr (but M none none)) (only wz (since L)) := zxZ fun gg hg hs => by
        have h1 := (zbiZ.1 hs).1
        refine ⟨zvZ.2 (by omega), ?_⟩
        rw [Hd gg (by omega)]
      refine bodyPost_ret (v := .agg #[.int .i64 kd, .string ⟨nm.toArray⟩, .slice AN nl cN, .slice AE el cE, .slice A m c]) (by simp [results, Tryz.results26, go_sem, q0, q1, q2, q3, q4]) rfl ⟨_, rfl, ?_, Jn⟩
      rw [Jx.o]
      exact IsTy.made2 (Js.o.sub Hb) (Jw.o.sub Hb) (Hv.o.tys.sub Jg)
theorem zmeZ:∀(n:Nat) (t:Sx.Ty),Sx.size t≤n→n≤1000000→OwnOk t
 | 0,t,h,_=>by have:=Sx.size_pos t;omega
 | n+1,t,h,h1=>zriZ t (by omega) fun p hp=>zmeZ n p (by
   have:=Sx.size_mem hp
   have:=Sx.size_parts t
   omega) (by omega)
end Go.Proofs.YtdncljdfmdgdaaaGreatDoor
