/-
  The walk of coilkeep.Own.
-/
import Derived.Test.YtdncljdfmdgdaaaGreatDoorM11
set_option linter.unusedSimpArgs false
set_option linter.unusedVariables false
set_option maxRecDepth 100000
set_option maxHeartbeats 8000000
namespace Go.Proofs.YtdncljdfmdgdaaaGreatDoor
open Go.RowKit Go.Shelf
theorem Sub.since_mono {W:World} {B B':Nat} (h:B'<=B):Sub (only W (since B)) (only W (since B')):=znZ fun g hg hs=>⟨zmZ.2 (by have:=zmZ.1 hs;omega),rfl⟩
theorem Sub.since_keep {W W':World} {B:Nat} (h:∀g,g<W.heap.size->B<=g->W'.heap[g]? =W.heap[g]?):Sub (only W (since B)) (only W' (since B)):=znZ fun g hg hs=>⟨hs,h g hg (zmZ.1 hs)⟩
structure OwnSt (L:Nat) (W:World) (c0 c1 c2:Array Value) (w:World):Prop where
 b:Below L W w
 k0:w.heap[L]? =some (.cells c0 26 (0,0))
 k1:w.heap[L+1]? =some (.cells c1 26 (0,0))
 k2:w.heap[L+1+1]? =some (.cells c2 26 (0,0))
theorem OwnSt.go {L:Nat} {W w w':World} {c0 c1 c2:Array Value} (h:OwnSt L W c0 c1 c2 w) (hb:Below w.heap.size w w'):OwnSt L W c0 c1 c2 w':=
 have hl:=zaZ h.k2
 ⟨h.b.trans (hb.mono (by omega)),(hb.block _ (by omega)).trans h.k0,(hb.block _ (by omega)).trans h.k1,(hb.block _ hl).trans h.k2⟩
theorem OwnSt.grown {L:Nat} {W w w':World} {c0 c1 c2:Array Value} (h:OwnSt L W c0 c1 c2 w) {r:Option Nat} (hg:w.grownBy w' r) (hr:∀j,r=some j->L+1+1+1<=j):OwnSt L W c0 c1 c2 w':=
 have hl:=zaZ h.k2
 ⟨h.b.grown hg (by omega) (fun j e=>by have:=hr j e;omega),(hg.block _ (by omega) (fun e=>by have:=hr _ e.symm;omega)).trans h.k0,(hg.block _ (by omega) (fun e=>by have:=hr _ e.symm;omega)).trans h.k1,(hg.block _ hl (fun e=>by have:=hr _ e.symm;omega)).trans h.k2⟩
theorem OwnSt.set {L:Nat} {W w:World} {c0 c1 c2:Array Value} (h:OwnSt L W c0 c1 c2 w) (j:Nat) (v:Value):OwnSt L W c0 c1 (c2.setIfInBounds j v) (w.setCell ⟨L+1+1,j,none⟩ v):=
 ⟨h.b.setCell (by simp;omega) v,(yuZ _ _ _ _ (by simp;omega)).trans h.k0,(yuZ _ _ _ _ (by simp)).trans h.k1,yMZ _ _ _ _ _ _ h.k2⟩
theorem OwnSt.lt {L:Nat} {W w:World} {c0 c1 c2:Array Value} (h:OwnSt L W c0 c1 c2 w):L<w.heap.size/\L+1<w.heap.size/\L+1+1<w.heap.size:=⟨zaZ h.k0,zaZ h.k1,zaZ h.k2⟩
theorem Sub.since_set {L j:Nat} {w:World} {v:Value} : Sub (only w (since (L+1+1+1))) (only (w.setCell ⟨L+1+1,j,none⟩ v) (since (L+1+1+1))):=Sub.since_keep fun g _ hB=>yuZ _ _ _ _ (by simp;omega)
theorem Sub.since_below {w w':World} {B:Nat} (h:Below w.heap.size w w'):Sub (only w (since B)) (only w' (since B)):=Sub.since_keep fun g hg _=>h.block g hg
theorem zedZ {w:World} {g t:Nat} {cs:Array Value} (h:w.heap[g]? =some (.cells cs t (0,0))):w.frozen? ⟨g,0,none⟩=false/\w.frozen? ⟨g,1,none⟩=false/\w.frozen? ⟨g,2,none⟩=false/\w.frozen? ⟨g,3,none⟩=false/\w.frozen? ⟨g,4,none⟩=false:=
 ⟨zsZ h 0,zsZ h 1,zsZ h 2,zsZ h 3,zsZ h 4⟩
theorem IsTy.made2 {w:World} {k:Int} {nm:Lx.Bytes} {vn ve vp:Value} {ns:List Lx.Bytes} {es:List Bool} {ps:List Sx.Ty} (h1:StrRow w vn ns) (h2:BoolRow w ve es) (h3:TyRow w vp ps) :
  IsTy w (.agg #[.int .i64 k,.string ⟨nm.toArray⟩,vn,ve,vp]) (.mk k nm ns es ps):=by
 obtain⟨A,c,rfl,hc,hl⟩:=h3;rw[IsTy];exact⟨vn,ve,A,c,rfl,h1,h2,hc,hl⟩
def OwnOk (t:Sx.Ty):Prop:=∀(v:Value) (W:World),IsTy W v t->
 Calls Tryz.prog 26 #[v] W fun e W'=>∃v',e=.returned v'/\IsTy (only W' (since W.heap.size)) v' t/\Below W.heap.size W W'
theorem zsnZ (t : Sx.Ty) (hsz : Sx.size t <= 1000000) (ih : ∀ p ∈ t.parts, OwnOk p) : OwnOk t := by
  intro v W ht;obtain ⟨An, cn, Ae, ce, Ap, cp, rfl, Hz, Hr, hp⟩ := ht.agg;have Ht := Sx.size_parts t;have J6 := Sx.length_size t.parts;obtain ⟨nl, J0⟩ := zE (t.names.length);obtain ⟨el, Hw⟩ := zE (t.embeds.length);obtain ⟨k, hk⟩ := zE (t.parts.length);obtain ⟨kd, Hx⟩ := zE (t.kind);obtain ⟨nm, H4⟩ := zE (t.name);rw [J0] at Hz Ht;rw [Hw] at Hr Ht;rw [hk] at hp J6;rw [Hx, H4, J0, Hw, hk];have n1 : nl <= 1000000 := (by omega);have e1 : el <= 1000000 := (by omega);have k0 : (0 : Int) <= (k : Int) := (by omega);have k1 : (k : Int) <= 1000000 := (by omega);obtain ⟨L, hL⟩ := zE (W.heap.size);have Jv := zh Hz;have Jy := zh Hr;have HP := zh hp;have Jk := zh ih;have HK := zh hk;have Jz := zh (show k <= 1000000 by omega);have HL := zh hL;have Jq := zh (show t = .mk kd nm t.names t.embeds t.parts by cases t; subst Hx H4; rfl);clear Hz Hr hp ih hk Hx H4 J0 Hw Ht J6 hsz ht;go_enter Tryz.func26, Tryz.ntmps26;go_upto_region 2 with (fail)
  obtain ⟨w3, H8⟩ := zE (((W.alloc (.cells #[.int .i64 kd, .string ⟨nm.toArray⟩, .slice An nl cn, .slice Ae el ce, .slice Ap k cp] 26)).alloc (.cells #[.int .i64 0, .string ⟨#[]⟩, .slice none 0 0, .slice none 0 0, .slice none 0 0] 26)).alloc (.cells #[.int .i64 kd, .string ⟨nm.toArray⟩, .slice none 0 0, .slice none 0 0, .slice none 0 0] 26));rw [H8];have Je : OwnSt L W #[.int .i64 kd, .string ⟨nm.toArray⟩, .slice An nl cn, .slice Ae el ce, .slice Ap k cp] #[.int .i64 0, .string ⟨#[]⟩, .slice none 0 0, .slice none 0 0, .slice none 0 0] #[.int .i64 kd, .string ⟨nm.toArray⟩, .slice none 0 0, .slice none 0 0, .slice none 0 0] w3 := by
    subst hL;refine ⟨?_, ?_, ?_, ?_⟩
    · rw [<- H8]
      exact (((yqZ _ W).alloc (ybZ _) _).alloc (by simp) _).alloc (by simp; omega) _
    · rw [<- H8]
      exact heap_alloc (heap_alloc (ydZ W _) _) _
    · rw [<- H8]
      have := ydZ (W.alloc (.cells #[.int .i64 kd, .string ⟨nm.toArray⟩, .slice An nl cn, .slice Ae el ce, .slice Ap k cp] 26)) (.cells #[.int .i64 0, .string ⟨#[]⟩, .slice none 0 0, .slice none 0 0, .slice none 0 0] 26);rw [show (W.alloc (.cells #[.int .i64 kd, .string ⟨nm.toArray⟩, .slice An nl cn, .slice Ae el ce, .slice Ap k cp] 26)).heap.size = W.heap.size + 1 by simp] at this;exact heap_alloc this _
    · rw [<- H8]
      have := ydZ ((W.alloc (.cells #[.int .i64 kd, .string ⟨nm.toArray⟩, .slice An nl cn, .slice Ae el ce, .slice Ap k cp] 26)).alloc (.cells #[.int .i64 0, .string ⟨#[]⟩, .slice none 0 0, .slice none 0 0, .slice none 0 0] 26)) (.cells #[.int .i64 kd, .string ⟨nm.toArray⟩, .slice none 0 0, .slice none 0 0, .slice none 0 0] 26);rw [show ((W.alloc (.cells #[.int .i64 kd, .string ⟨nm.toArray⟩, .slice An nl cn, .slice Ae el ce, .slice Ap k cp] 26)).alloc (.cells #[.int .i64 0, .string ⟨#[]⟩, .slice none 0 0, .slice none 0 0, .slice none 0 0] 26)).heap.size = W.heap.size + 1 + 1 by simp] at this;exact this
  have Hg : w3.heap.size = L + 1 + 1 + 1 := (by rw [<- H8, <- hL]; simp);have HS := zh Je;have Js := zh Hg;clear H8 Je Hg;obtain ⟨x0, x1, x2, x3, x4⟩ := zcZ HS.o.k0;obtain ⟨y0, y1, y2, y3, y4⟩ := zcZ HS.o.k2;obtain ⟨l1, l2, l3⟩ := HS.o.lt
  go_upto_region 3 with (first
    | (at_builtin; refine zdfZ rfl _ _ rfl rfl rfl (Jv.o.below (by rw [HL.o]; exact HS.o.b)) n1 ?_; intro AN cN w4 Hp Jc; have He := HS.o.go Jc; obtain ⟨m1, m2, m3⟩ := He.lt; obtain ⟨f0, f1, f2, f3, f4⟩ := zedZ He.k2; obtain ⟨q0, q1, q2, q3, q4⟩ := zcZ He.k2))
  obtain ⟨w5, Hh⟩ := zE (w4.setCell ⟨L + 1 + 1, 2, none⟩ (.slice AN nl cN));rw [Hh];have H9 := He.set 2 (.slice AN nl cN);rw [Hh] at H9;have J2 : StrRow (only w5 (since (L + 1 + 1 + 1))) (.slice AN nl cN) t.names := (by rw [Js.o] at Hp;rw [<- Hh];exact Hp.sub Sub.since_set);have Jl : L + 1 + 1 + 1 <= w5.heap.size := (by rw [<- Hh]; simp [World.setCell]; omega);have Hf := zh H9;have Ji := zh J2;clear He H9 Hp J2 Jc Hh f0 f1 f2 f3 f4 q0 q1 q2 q3 q4 m1 m2 m3 x0 x1 x2 x3 x4 y0 y1 y2 y3 y4 l1 l2 l3;obtain ⟨x0, x1, x2, x3, x4⟩ := zcZ Hf.o.k0;obtain ⟨y0, y1, y2, y3, y4⟩ := zcZ Hf.o.k2;obtain ⟨l1, l2, l3⟩ := Hf.o.lt
  go_upto_region 4 with (first
    | (at_builtin; refine zfsZ rfl _ _ rfl rfl rfl (Jy.o.below (by rw [HL.o]; exact Hf.o.b)) e1 ?_; intro AE cE w6 Jd Hl; have Hk := Hf.o.go Hl; obtain ⟨m1, m2, m3⟩ := Hk.lt; obtain ⟨f0, f1, f2, f3, f4⟩ := zedZ Hk.k2; obtain ⟨q0, q1, q2, q3, q4⟩ := zcZ Hk.k2))
  obtain ⟨w7, Hc⟩ := zE (w6.setCell ⟨L + 1 + 1, 3, none⟩ (.slice AE el cE));rw [Hc];have Hb := Hk.set 3 (.slice AE el cE);rw [Hc] at Hb;have J9 : BoolRow (only w7 (since (L + 1 + 1 + 1))) (.slice AE el cE) t.embeds := (by rw [<- Hc];exact (Jd.sub (Sub.since_mono Jl)).sub Sub.since_set);have J5 : StrRow (only w7 (since (L + 1 + 1 + 1))) (.slice AN nl cN) t.names := (by rw [<- Hc];exact (Ji.o.sub (Sub.since_below Hl)).sub Sub.since_set);have Jw : L + 1 + 1 + 1 <= w7.heap.size := (by have := Hl.size; rw [<- Hc]; simp [World.setCell]; omega);have Jr := zh Hb;have Jm := zh J9;have Jp := zh J5;clear Hk Hb Jd J9 J5 Hl Hc f0 f1 f2 f3 f4 q0 q1 q2 q3 q4 m1 m2 m3 x0 x1 x2 x3 x4 y0 y1 y2 y3 y4 l1 l2 l3;go_wp2_with fail;obtain ⟨M, hM⟩ := zE (w7.heap.size);have HM := zh hM;rw [hM] at Jw;clear hM
  go_loopg [4] k (fun i v wr => ∃ (m : Nat) (A : Option Addr) (c : Nat), i = k - m /\ v = .int .i64 (m : Nat) /\ m <= k /\ OwnSt L W #[.int .i64 kd, .string ⟨nm.toArray⟩, .slice An nl cn, .slice Ae el ce, .slice Ap k cp] #[.int .i64 0, .string ⟨#[]⟩, .slice none 0 0, .slice none 0 0, .slice none 0 0] #[.int .i64 kd, .string ⟨nm.toArray⟩, .slice AN nl cN, .slice AE el cE, .slice A m c] wr /\
    (∀ gg, L + 1 + 1 + 1 <= gg -> gg < M -> wr.heap[gg]? = w7.heap[gg]?) /\ Own RTy 26 5 M none wr (.slice A m c) (t.parts.take m) /\ M <= wr.heap.size)
  case atStart => exact ⟨0, none, 0, rfl, rfl, yxZ _, Jr.o, fun _ _ _ => rfl, Own.nil, Nat.le_of_eq HM.o.symm⟩
  case round =>
    obtain ⟨m, A, c, hi, rfl, hm, hs, hq, ho, hz⟩ := hrel;have HI := zh hi;have H3 := zh hs;have Ja := zh hq;have HO := zh ho;have m0 : (0 : Int) <= (m : Int) := (by omega);clear hi hs hq ho;obtain ⟨x0, x1, x2, x3, x4⟩ := zcZ H3.o.k0;obtain ⟨y0, y1, y2, y3, y4⟩ := zcZ H3.o.k2;obtain ⟨l1, l2, l3⟩ := H3.o.lt;by_cases hlt : m < k
    · have Jg : (m : Int) < (k : Int) := by omega
      have Ho : m < t.parts.length := (by have := HK.o; omega);obtain ⟨g, off, An1, cn1, Ae1, ce1, Aq, cq, rfl, Hv, Hu⟩ := HP.o.spot m Ho;rw [HL.o] at Hu;obtain ⟨hg, c0, c1, c2, c3, c4⟩ := Hu wr H3.o.b;have J3 := zh (ykZ Ho);have Jo := zh (show (t.parts.take m).length = m by rw [yUZ]; omega);have H6 := yfZ Ho;obtain ⟨p, J4⟩ := zE (t.parts[m]'Ho);rw [J4] at c0 c1 c2 c3 c4 Hv H6 J3;have Jx := zh (fun X (hX : Below wr.heap.size wr X) => Jk.o p H6 _ X (IsTy.below (by rw [HL.o]; exact (H3.o.go hX).b) _ _ Hv));clear H6 J4 Hv Hu;have Hn : Below wr.heap.size wr wr.drew := Below.drewN (yqZ _ _) 1
      have Hs := zh (show ∀ (w5 W9 w9 : World) (A9 : Option Addr) (c9 : Nat), Below wr.heap.size wr W9 -> Own RTy 26 5 M none w9 (.slice A9 (m + 1) c9) (t.parts.take m ++ [p]) -> W9.grownBy w9 (Value.slice A m c).ownBlock ->
          (OwnSt L W #[.int .i64 kd, .string ⟨nm.toArray⟩, .slice An nl cn, .slice Ae el ce, .slice (some ⟨g, off, none⟩) k cp] #[.int .i64 0, .string ⟨#[]⟩, .slice none 0 0, .slice none 0 0, .slice none 0 0] #[.int .i64 kd, .string ⟨nm.toArray⟩, .slice AN nl cN, .slice AE el cE, .slice A m c] w9) /\
          (OwnSt L W #[.int .i64 kd, .string ⟨nm.toArray⟩, .slice An nl cn, .slice Ae el ce, .slice (some ⟨g, off, none⟩) k cp] #[.int .i64 0, .string ⟨#[]⟩, .slice none 0 0, .slice none 0 0, .slice none 0 0] #[.int .i64 kd, .string ⟨nm.toArray⟩, .slice AN nl cN, .slice AE el cE, .slice A9 (m + 1) c9] (w9.setCell ⟨L + 1 + 1, 4, none⟩ (.slice A9 (m + 1) c9))) /\
          (∀ gg, L + 1 + 1 + 1 <= gg -> gg < M -> (w9.setCell ⟨L + 1 + 1, 4, none⟩ (.slice A9 (m + 1) c9)).heap[gg]? = w7.heap[gg]?) /\
          Own RTy 26 5 M none (w9.setCell ⟨L + 1 + 1, 4, none⟩ (.slice A9 (m + 1) c9)) (.slice A9 (m + 1) c9) (t.parts.take (m + 1)) /\ M <= (w9.setCell ⟨L + 1 + 1, 4, none⟩ (.slice A9 (m + 1) c9)).heap.size by
        intro w5 W9 w9 A9 c9 Ha H0 H1;have J8 := fun j e => (Own.lt HO.o j e).1;have H5 := (H3.o.go Ha).grown H1 (fun j e => by have := J8 j e; omega);have Hj : ∀ gg, gg ≠ L + 1 + 1 -> (w9.setCell ⟨L + 1 + 1, 4, none⟩ (.slice A9 (m + 1) c9)).heap[gg]? = w9.heap[gg]? := fun gg h => yuZ _ _ _ _ h;refine ⟨H5, H5.set 4 _, fun gg h1 h2 => ?_, ?_, ?_⟩
        · rw [Hj gg (by omega), H1.block gg (by have := Ha.size; omega) (fun e => by have := J8 gg e.symm; omega), Ha.block gg (by omega)]
          exact Ja.o gg h1 h2
        · rw [J3.o]
          exact H0.keep RTy.sub fun gg _ h _ => Hj gg (by omega)
        · have := Ha.size
          have := H1.size;simp [World.setCell]
          omega)
      go_upto_region 7 with (fail)
      go_region_law (first
        | (refine zshZ (w := w5.alloc (.cells #[.int .i64 p.kind, .string ⟨p.name.toArray⟩, .slice B1 p.names.length d1, .slice B2 p.embeds.length d2, .slice B3 p.parts.length d3] 26)) RTy.sub rfl (.tmp 30) (.tmp 37) 24 rfl (Own.go RTy.sub HO.o Jb.o) Jo.o Tryz.underlying24 zlhZ rfl (by decide) rfl rfl (c := 1) (k := w5.heap.size) rfl (by exact ydZ w5 _) rfl (by simp [Value.oneCell']) (B := wr.heap.size) Jj.o hz (by simp; omega) (fun b e => nomatch e) (fun b e => (Own.lt HO.o b e).2) (by omega) (by omega) ?_
           intro A9 c9 w9 H0 H1;obtain ⟨H5, H2⟩ := Hs.o w5 _ w9 A9 c9 Jb.o H0 H1;obtain ⟨y0, y1, y2, y3, y4⟩ := zcZ H5.k2;obtain ⟨f0, f1, f2, f3, f4⟩ := zedZ H5.k2;obtain ⟨l1, l2, l3⟩ := H5.lt;have J1 := zh H2
           clear H0 H1 H5 H2)
        | (go_simp
           go_at_call 26
           refine (Jx.o wr.drew Hn).mono ?_;rintro e w5 ⟨v5, rfl, Hq, Hi⟩;obtain ⟨B1, d1, B2, d2, B3, d3, rfl, -⟩ := id Hq.agg;have H9 := (H3.o.go Hn).go Hi;have Ha : Below wr.heap.size wr (w5.alloc (.cells #[.int .i64 p.kind, .string ⟨p.name.toArray⟩, .slice B1 p.names.length d1, .slice B2 p.embeds.length d2, .slice B3 p.parts.length d3] 26)) := (Hn.trans Hi).alloc (Hn.trans Hi).size _;have Jb := zh Ha
           have Jj := zh (show RTy (only (w5.alloc (.cells #[.int .i64 p.kind, .string ⟨p.name.toArray⟩, .slice B1 p.names.length d1, .slice B2 p.embeds.length d2, .slice B3 p.parts.length d3] 26)) (since wr.heap.size)) [.int .i64 p.kind, .string ⟨p.name.toArray⟩, .slice B1 p.names.length d1, .slice B2 p.embeds.length d2, .slice B3 p.parts.length d3] p from
             ⟨_, _, _, _, _, rfl, IsTy.sub (Sub.since_below (zeZ (yeZ w5 _ none))) _ _ Hq⟩)
           have Jt : wr.heap.size <= w5.heap.size := Hi.size;obtain ⟨y0, y1, y2, y3, y4⟩ := zcZ H9.k2;obtain ⟨l1, l2, l3⟩ := H9.lt
           clear Hq Hi H9 Ha))
      all_goals
        obtain ⟨W10, hW10⟩ := zE (w9.setCell ⟨L + 1 + 1, 4, none⟩ (.slice A9 (m + 1) c9));have H2 := J1.o;rw [hW10] at H2 ⊢;have Ju := zh H2;clear hW10 H2;go_wp2_with fail;go_roundg (k - (m + 1))
        case measure => have := HI.o; omega
        case rel => exact ⟨m + 1, A9, c9, rfl, by simp, hlt, Ju.o⟩
    · have Jg : ¬ (m : Int) < (k : Int) := by omega
      have J7 := yjZ (show t.parts.length <= m by have := HK.o; omega);have H7 := HO.o;rw [J7] at H7;obtain ⟨z0, z1, z2, z3, z4⟩ := zcZ H3.o.k1;obtain ⟨f0, f1, f2, f3, f4⟩ := zedZ H3.o.k1;have Hy := zh H7;clear J7 H7;go_wp2_with fail;obtain ⟨wz, Hm⟩ := zE ((((((wr.setCell ⟨L + 1, 0, none⟩ (.int .i64 kd)).setCell ⟨L + 1, 1, none⟩ (.string ⟨nm.toArray⟩)).setCell ⟨L + 1, 2, none⟩ (.slice AN nl cN)).setCell ⟨L + 1, 3, none⟩ (.slice AE el cE)).setCell ⟨L + 1, 4, none⟩ (.slice A m c)));rw [Hm];have Jf := yMZ _ _ 4 _ _ (.slice A m c) (yMZ _ _ 3 _ _ (.slice AE el cE) (yMZ _ _ 2 _ _ (.slice AN nl cN) (yMZ _ _ 1 _ _ (.string ⟨nm.toArray⟩) (yMZ _ _ 0 _ _ (.int .i64 kd) H3.o.k1))));have Jn : Below L W wz := (by rw [<- Hm];exact ((((H3.o.b.setCell (by simp) _).setCell (by simp) _).setCell (by simp) _).setCell (by simp) _).setCell (by simp) _);have Hd : ∀ gg, gg ≠ L + 1 -> wz.heap[gg]? = wr.heap[gg]? := fun gg h => (by rw [<- Hm];exact (yuZ _ _ _ _ h).trans ((yuZ _ _ _ _ h).trans ((yuZ _ _ _ _ h).trans ((yuZ _ _ _ _ h).trans (yuZ _ _ _ _ h)))));rw [Hm] at Jf;obtain ⟨q0, q1, q2, q3, q4⟩ := zcZ (show wz.heap[L + 1]? = some (.cells #[.int .i64 kd, .string ⟨nm.toArray⟩, .slice AN nl cN, .slice AE el cE, .slice A m c] 26 (0, 0)) from Jf);have Hb : Sub (only w7 (since (L + 1 + 1 + 1))) (only wz (since L)) := znZ fun gg hg hs => (by have h1 := zmZ.1 hs;refine ⟨zmZ.2 (by omega), ?_⟩;rw [Hd gg (by omega)];exact Ja.o gg h1 (by have := HM.o; omega));have Jh : Sub (only wr (but M none none)) (only wz (since L)) := znZ fun gg hg hs => (by have h1 := (zxZ.1 hs).1;refine ⟨zmZ.2 (by omega), ?_⟩;rw [Hd gg (by omega)]);refine ylZ (v := .agg #[.int .i64 kd, .string ⟨nm.toArray⟩, .slice AN nl cN, .slice AE el cE, .slice A m c]) (by simp [results, Tryz.results26, go_sem, q0, q1, q2, q3, q4]) rfl ⟨_, rfl, ?_, Jn⟩;rw [Jq.o];exact IsTy.made2 (Jp.o.sub Hb) (Jm.o.sub Hb) (Hy.o.tys.sub Jh)
theorem zjeZ:∀(n:Nat) (t:Sx.Ty),Sx.size t<=n->n<=1000000->OwnOk t
 | 0,t,h,_=>by have:=Sx.size_pos t;omega
 | n+1,t,h,h1=>zsnZ t (by omega) fun p hp=>zjeZ n p (by
   have:=Sx.size_mem hp;have:=Sx.size_parts t
   omega) (by omega)
def StrsIn (w:World) (v:Value) (l:List Lx.Bytes):Prop:=
 ∃g c cur fr,v=.slice (some ⟨g,0,none⟩) l.length c/\w.heap[g]? =some (.cells cur 9 fr)/\cur.toList.take l.length=l.map (fun s=>Value.string ⟨s.toArray⟩)
theorem StrsIn.below {w w':World} {v:Value} {ts:List Lx.Bytes} (h:StrsIn w v ts) (hb:Below w.heap.size w w'):StrsIn w' v ts:=by
 obtain⟨g,c,cur,fr,h1,h2,h3⟩:=h;exact⟨g,c,cur,fr,h1,(hb.block g (zaZ h2)).trans h2,h3⟩
theorem zsoZ (w:World):Calls Tryz.prog 192 #[] w fun e w'=>
  e=.returned (.slice (some ⟨w.heap.size,0,none⟩) 25 25)/\w'=w.alloc (.cells wordCells 9):=by
 go_enter Tryz.func192, Tryz.ntmps192
 go_wp2
 go_ret;exact⟨rfl,rfl⟩
theorem zoiZ (ts us:List Lx.Bytes) (v u:Value) (w:World) (hv:StrRow w v ts) (hu:StrRow w u us) (hl:ts.length<=1000000000) (hl2:us.length<=1000000000) :
  Calls Tryz.prog 16 #[v,u] w fun e w'=>e=.returned (.bool (decide (ts=us)))/\Below w.heap.size w w':=by
 obtain⟨A1,c1,rfl,hv'⟩:=hv;obtain⟨A2,c2,rfl,hu'⟩:=hu;have HA:=zh (show StrRow w (.slice A1 ts.length c1) ts from⟨A1,c1,rfl,hv'⟩);have HB:=zh (show StrRow w (.slice A2 us.length c2) us from⟨A2,c2,rfl,hu'⟩);clear hv' hu';by_cases hlen:ts.length=us.length
 ·have hb:((ts.length:Int) != (us.length:Int))=false:=(by simp[hlen]);have HL:=zh hlen;clear hlen;go_enter Tryz.func16, Tryz.ntmps16;go_wp2;go_loopg [5] (ts.length) (fun n v wr=>∃(m:Nat),n=ts.length-m/\v=.int .i64 (m:Int)/\m<=ts.length/\ts.take m=us.take m/\Below w.heap.size w wr)
  case atStart=>exact⟨0,rfl,rfl,yxZ _,by simp,yqZ _ _⟩
  case round=>
   obtain⟨m,hn,rfl,hm,he,hbl⟩:=hrel;have HN:=zh hn;have HE:=zh he;clear hn he;by_cases hlt:m<ts.length
   ·have H0:m<us.length:=(by rw[<-HL.o];exact hlt);have hi:(m:Int)<(ts.length:Int):=(by omega);have H2:(m:Int)<(us.length:Int):=(by omega);have H3:(0:Int)<=(m:Int):=(by omega);have H4:(m:Int)<=1000000000:=(by omega);obtain⟨g,off,rfl,hgl,t0⟩:=HA.o.cellAt hbl m hlt;obtain⟨g2,off2,rfl,hgl2,u0⟩:=HB.o.cellAt hbl m H0;obtain⟨t,ht⟩:=zE (ts[m]'hlt);obtain⟨x,hx⟩:=zE (us[m]'H0);rw[ht]at t0;rw[hx]at u0;have HT:=zh ht;have HX:=zh hx;clear ht hx
    cases hq:(t==x)with
    | true=>
     have H1:t=x:=(by simpa using hq);have HS:=zh (zecZ HE.o hlt H0 (by rw[HT.o,HX.o,H1]));clear H1;go_wp2;go_quiet (fail);go_wp2
     go_roundg (ts.length-(m+1))
     case measure=>have:=HN.o;omega
     case rel=>exact⟨m+1,rfl,by simp,hlt,HS.o,Below.drewN hbl _⟩
    | false=>
     have H1:t≠x:=by simpa using hq
     have HS:=zh (show decide (ts=us)=false by
      rw[yvZ];rintro rfl
      exact H1 (HT.o.symm.trans HX.o))
     clear H1;go_wp2;go_quiet (fail);go_wp2
     go_ret;rw[HS.o];exact⟨rfl,Below.drewN hbl _⟩
   ·have hi:¬(m:Int)<(ts.length:Int):=by omega
    have HS:=zh (show decide (ts=us)=true by
     rw[yCZ];have h1:=HE.o
     rwa [yjZ (by omega),yjZ (by have:=HL.o;omega)]at h1)
    go_wp2
    go_ret;rw[HS.o];exact⟨rfl,hbl⟩
 ·have hb:((ts.length:Int) != (us.length:Int))=true:=by simp;omega
  have HS:=zh (show decide (ts=us)=false by
   rw[yvZ];rintro rfl
   exact hlen rfl)
  clear hlen;go_enter Tryz.func16, Tryz.ntmps16;go_wp2;go_ret;rw[HS.o];exact⟨rfl,yqZ _ _⟩
theorem zjsZ (ts us:List Lx.Bytes) (v u:Value) (w:World) (hv:StrRow w v ts) (hu:StrRow w u us) (hl:ts.length<=1000000000) (hl2:us.length<=1000000000) :
  Calls Tryz.prog 46 #[v,u] w fun e w'=>e=.returned (.bool (decide (ts=us)))/\Below w.heap.size w w':=by
 obtain⟨A1,c1,rfl,hv'⟩:=hv;obtain⟨A2,c2,rfl,hu'⟩:=hu;have HA:=zh (show StrRow w (.slice A1 ts.length c1) ts from⟨A1,c1,rfl,hv'⟩);have HB:=zh (show StrRow w (.slice A2 us.length c2) us from⟨A2,c2,rfl,hu'⟩);clear hv' hu';by_cases hlen:ts.length=us.length
 ·have hb:((ts.length:Int) != (us.length:Int))=false:=(by simp[hlen]);have HL:=zh hlen;clear hlen;go_enter Tryz.func46, Tryz.ntmps46;go_wp2;go_loopg [5] (ts.length) (fun n v wr=>∃(m:Nat),n=ts.length-m/\v=.int .i64 (m:Int)/\m<=ts.length/\ts.take m=us.take m/\Below w.heap.size w wr)
  case atStart=>exact⟨0,rfl,rfl,yxZ _,by simp,yqZ _ _⟩
  case round=>
   obtain⟨m,hn,rfl,hm,he,hbl⟩:=hrel;have HN:=zh hn;have HE:=zh he;clear hn he;by_cases hlt:m<ts.length
   ·have H0:m<us.length:=(by rw[<-HL.o];exact hlt);have hi:(m:Int)<(ts.length:Int):=(by omega);have H2:(m:Int)<(us.length:Int):=(by omega);have H3:(0:Int)<=(m:Int):=(by omega);have H4:(m:Int)<=1000000000:=(by omega);obtain⟨g,off,rfl,hgl,t0⟩:=HA.o.cellAt hbl m hlt;obtain⟨g2,off2,rfl,hgl2,u0⟩:=HB.o.cellAt hbl m H0;obtain⟨t,ht⟩:=zE (ts[m]'hlt);obtain⟨x,hx⟩:=zE (us[m]'H0);rw[ht]at t0;rw[hx]at u0;have HT:=zh ht;have HX:=zh hx;clear ht hx
    cases hq:(t==x)with
    | true=>
     have H1:t=x:=(by simpa using hq);have HS:=zh (zecZ HE.o hlt H0 (by rw[HT.o,HX.o,H1]));clear H1;go_wp2;go_quiet (fail);go_wp2
     go_roundg (ts.length-(m+1))
     case measure=>have:=HN.o;omega
     case rel=>exact⟨m+1,rfl,by simp,hlt,HS.o,Below.drewN hbl _⟩
    | false=>
     have H1:t≠x:=by simpa using hq
     have HS:=zh (show decide (ts=us)=false by
      rw[yvZ];rintro rfl
      exact H1 (HT.o.symm.trans HX.o))
     clear H1;go_wp2;go_quiet (fail);go_wp2
     go_ret;rw[HS.o];exact⟨rfl,Below.drewN hbl _⟩
   ·have hi:¬(m:Int)<(ts.length:Int):=by omega
    have HS:=zh (show decide (ts=us)=true by
     rw[yCZ];have h1:=HE.o
     rwa [yjZ (by omega),yjZ (by have:=HL.o;omega)]at h1)
    go_wp2
    go_ret;rw[HS.o];exact⟨rfl,hbl⟩
 ·have hb:((ts.length:Int) != (us.length:Int))=true:=by simp;omega
  have HS:=zh (show decide (ts=us)=false by
   rw[yvZ];rintro rfl
   exact hlen rfl)
  clear hlen;go_enter Tryz.func46, Tryz.ntmps46;go_wp2;go_ret;rw[HS.o];exact⟨rfl,yqZ _ _⟩
theorem zpoZ (ts us:List Bool) (v u:Value) (w:World) (hv:BoolRow w v ts) (hu:BoolRow w u us) (hl:ts.length<=1000000000) (hl2:us.length<=1000000000) :
  Calls Tryz.prog 71 #[v,u] w fun e w'=>e=.returned (.bool (decide (ts=us)))/\Below w.heap.size w w':=by
 obtain⟨A1,c1,rfl,hv'⟩:=hv;obtain⟨A2,c2,rfl,hu'⟩:=hu;have HA:=zh (show BoolRow w (.slice A1 ts.length c1) ts from⟨A1,c1,rfl,hv'⟩);have HB:=zh (show BoolRow w (.slice A2 us.length c2) us from⟨A2,c2,rfl,hu'⟩);clear hv' hu';by_cases hlen:ts.length=us.length
 ·have hb:((ts.length:Int) != (us.length:Int))=false:=(by simp[hlen]);have HL:=zh hlen;clear hlen;go_enter Tryz.func71, Tryz.ntmps71;go_wp2;go_loopg [5] (ts.length) (fun n v wr=>∃(m:Nat),n=ts.length-m/\v=.int .i64 (m:Int)/\m<=ts.length/\ts.take m=us.take m/\Below w.heap.size w wr)
  case atStart=>exact⟨0,rfl,rfl,yxZ _,by simp,yqZ _ _⟩
  case round=>
   obtain⟨m,hn,rfl,hm,he,hbl⟩:=hrel;have HN:=zh hn;have HE:=zh he;clear hn he;by_cases hlt:m<ts.length
   ·have H0:m<us.length:=(by rw[<-HL.o];exact hlt);have hi:(m:Int)<(ts.length:Int):=(by omega);have H3:(m:Int)<(us.length:Int):=(by omega);have H4:(0:Int)<=(m:Int):=(by omega);have H5:(m:Int)<=1000000000:=(by omega);obtain⟨g,off,rfl,hgl,t0⟩:=HA.o.cellAt hbl m hlt;obtain⟨g2,off2,rfl,hgl2,u0⟩:=HB.o.cellAt hbl m H0;obtain⟨t,ht⟩:=zE (ts[m]'hlt);obtain⟨x,hx⟩:=zE (us[m]'H0);rw[ht]at t0;rw[hx]at u0;have HT:=zh ht;have HX:=zh hx;clear ht hx
    cases hq:(t==x)with
    | true=>
     have H1:t=x:=(by simpa using hq);have H2:(t != x)=false:=(by simp[H1]);have HS:=zh (zecZ HE.o hlt H0 (by rw[HT.o,HX.o,H1]));clear H1;go_wp2;go_quiet (fail);go_wp2
     go_roundg (ts.length-(m+1))
     case measure=>have:=HN.o;omega
     case rel=>exact⟨m+1,rfl,by simp,hlt,HS.o,Below.drewN hbl _⟩
    | false=>
     have H1:t≠x:=(by simpa using hq);have H2:(t != x)=true:=by simp[bne,hq]
     have HS:=zh (show decide (ts=us)=false by
      rw[yvZ];rintro rfl
      exact H1 (HT.o.symm.trans HX.o))
     clear H1;go_wp2;go_quiet (fail);go_wp2
     go_ret;rw[HS.o];exact⟨rfl,Below.drewN hbl _⟩
   ·have hi:¬(m:Int)<(ts.length:Int):=by omega
    have HS:=zh (show decide (ts=us)=true by
     rw[yCZ];have h1:=HE.o
     rwa [yjZ (by omega),yjZ (by have:=HL.o;omega)]at h1)
    go_wp2
    go_ret;rw[HS.o];exact⟨rfl,hbl⟩
 ·have hb:((ts.length:Int) != (us.length:Int))=true:=by simp;omega
  have HS:=zh (show decide (ts=us)=false by
   rw[yvZ];rintro rfl
   exact hlen rfl)
  clear hlen;go_enter Tryz.func71, Tryz.ntmps71;go_wp2;go_ret;rw[HS.o];exact⟨rfl,yqZ _ _⟩
end Go.Proofs.YtdncljdfmdgdaaaGreatDoor
namespace Go.Proofs.YtdncljdfmdgdaaaGreatDoor
open Go.RowKit Go.Shelf Go.WideMaps
def isTok (k:Int) (s:Lx.Bytes):Bool:=(Lx.join [⟨0,k,s,0⟩]).2 != 1
def NM:Sx.Names:=⟨isTok 1,isTok 2,isTok 5⟩
theorem synIs (k:Int) (s:Lx.Bytes) (w:World) (hG:GS w) (hN:NG<=w.heap.size) (hs:s.length<=1000000000) :
  Calls Tryz.prog 133 #[.int .i64 k,.string ⟨s.toArray⟩] w fun e w'=>e=.returned (.bool (isTok k s))/\Below w.heap.size w w':=by
 obtain⟨w2,hw2⟩:=zE (w.alloc (.cells #[.int .i64 0,.int .i64 k,.string ⟨s.toArray⟩,.int .i64 0] 133));have hg:Below w.heap.size w w2:=by rw[<-hw2];exact zeZ (yeZ w _ none)
 have H0:ToksIn w2 (.slice (some ⟨w.heap.size,0,none⟩) 1 1) [⟨0,k,s,0⟩]:=.inr ⟨w.heap.size,1,#[.int .i64 0,.int .i64 k,.string ⟨s.toArray⟩,.int .i64 0],(0,0),rfl,by rw[<-hw2];exact ydZ w _,rfl⟩;have hj:=zutZ [⟨0,k,s,0⟩] _ w2 (hG.below hg) (ymZ hN hg.size) H0 (by simp) (by intro t ht;simp at ht;subst ht;exact⟨hs,by simp,by simp⟩);obtain⟨r,hr⟩:=zE (Lx.join [⟨0,k,s,0⟩]);have hb:isTok k s=(r.2 != 1):=by unfold isTok;rw[hr]
 rw[hr]at hj;rw[hb];have hc:((r.2:Int) != 1)=(r.2 != 1):=by rw[yEZ];simp;omega
 have HC:=zh hc;clear hc;have HG:=zh hg;have HJ:=zh hj;clear hr hb H0 hj hg;go_enter Tryz.func133, Tryz.ntmps133;go_wp2_with (go_at_call 48;refine HJ.o.mono ?_;rintro e w3 ⟨rfl,h3⟩);go_ret;rw[<-HC.o];exact⟨rfl,HG.o.trans (h3.mono HG.o.size)⟩
theorem znhZ (s:Lx.Bytes) (w:World) (hG:GS w) (hN:NG<=w.heap.size) (hs:s.length<=1000000000) :
  Calls Tryz.prog 132 #[.string ⟨s.toArray⟩] w fun e w'=>e=.returned (.bool (NM.small s))/\Below w.heap.size w w':=by
 have hi:=synIs 1 s w hG hN hs;have HI:=zh hi;clear hi;go_enter Tryz.func132, Tryz.ntmps132;go_wp2_with (go_at_call 133;refine HI.o.mono ?_;rintro e w3 ⟨rfl,h3⟩);go_ret;exact⟨rfl,h3⟩
theorem zspZ (s:Lx.Bytes) (w:World) (hG:GS w) (hN:NG<=w.heap.size) (hs:s.length<=1000000000) :
  Calls Tryz.prog 107 #[.string ⟨s.toArray⟩] w fun e w'=>e=.returned (.bool (NM.great s))/\Below w.heap.size w w':=by
 have hi:=synIs 2 s w hG hN hs;have HI:=zh hi;clear hi;go_enter Tryz.func107, Tryz.ntmps107;go_wp2_with (go_at_call 133;refine HI.o.mono ?_;rintro e w3 ⟨rfl,h3⟩);go_ret;exact⟨rfl,h3⟩
theorem zsqZ (s:Lx.Bytes) (w:World) (hG:GS w) (hN:NG<=w.heap.size) (hs:s.length<=1000000000) :
  Calls Tryz.prog 134 #[.string ⟨s.toArray⟩] w fun e w'=>e=.returned (.bool (NM.said s))/\Below w.heap.size w w':=by
 have hi:=synIs 5 s w hG hN hs;have HI:=zh hi;clear hi;go_enter Tryz.func134, Tryz.ntmps134;go_wp2_with (go_at_call 133;refine HI.o.mono ?_;rintro e w3 ⟨rfl,h3⟩);go_ret;exact⟨rfl,h3⟩
theorem Sx.apart_iff (N:Sx.Names):∀l:List Lx.Bytes,Sx.apart N l=true↔(∀s∈l,N.small s=true)/\l.Nodup
 | []=>by simp[Sx.apart]
 | s::l=>by
  rw[Sx.apart,ygZ,ygZ,Sx.apart_iff N l,List.nodup_cons];simp only[Bool.not_eq_true',List.contains_eq_mem,yvZ,yTZ,forall_eq_or_imp];constructor
  ·rintro⟨a,b,c,d⟩;exact⟨⟨a,c⟩,b,d⟩
  ·rintro⟨⟨a,c⟩,b,d⟩;exact⟨a,b,c,d⟩
def Counts (b:Nat) (l:List Lx.Bytes) (w:World):Prop:=∃n,∃D:DataW Unit,n<=l.length/\w.ownsMap Tryz.prog 9 (plainElem Tryz.prog 3) b n D/\Maps.IsMap D/\∀s,D.atKey (.string s) (.lit (.int .i64 0))=.lit (.int .i64 (l.count s:Nat))
theorem Counts.kept {b:Nat} {l:List Lx.Bytes} {w w':World} (h:Counts b l w) (hg:w.grownBy w' none):Counts b l w':=by
 obtain⟨n,D,hn,hm,hD,hat⟩:=h;exact⟨n,D,hn,hm.kept hg (by simp),hD,hat⟩
theorem Counts.below {b:Nat} {l:List Lx.Bytes} {w w':World} (h:Counts b l w) (hg:Below w.heap.size w w'):Counts b l w':=h.kept (zbhZ hg)
theorem Counts.look {b:Nat} {l:List Lx.Bytes} {w:World} (h:Counts b l w) (s:Lx.Bytes) (hs:s.length<=140737488351232) :
  (Instr.lookup 107 (.map (some b)) (.string ⟨s.toArray⟩) false).run Tryz.prog w=.ok (.int .i64 (l.count s:Nat)) w:=by
 obtain⟨n,D,hn,hm,hD,hat⟩:=h;have H0:keyOf Tryz.prog 9 (.string ⟨s.toArray⟩)=some (.string s):=by simpa using keyOf_string_mk (P:= Tryz.prog) Tryz.underlying9 (s:=⟨s.toArray⟩) (by simp[ByteArray.size,maxLen];omega)
 obtain⟨c,hlk,hc,wc⟩:=hm.lookup_int (Maps.string_keyed (P:= Tryz.prog) Tryz.underlying9) Tryz.underlying107 Tryz.underlying3 (zjbZ _) H0;rw[hat s]at hc;injection hc with hc;injection hc with _ hc;subst hc;exact hlk
theorem zlmZ {ops:Array Oper} {rest:List Oper} {o:Oper} {a:Act} {Q:Exit->Act->World->Prop} {b:Nat} {l:List Lx.Bytes} {w:World} (h:Counts b l w) (s:Lx.Bytes) (hs:s.length<=140737488351232) (hl:l.length<=1000000)
  (hg:o.guard=none) (m x v:Operand) (hop:o.op=Op.mapUpdate 107 m x v) (hm:a.eval m=.map (some b)) (hx:a.eval x=.string ⟨s.toArray⟩) {c:Int} (hv:a.eval v=.int .i64 c) (hc:c=(l.count s:Int)+1)
  (hK:∀w',Counts b (l++[s]) w'->w.grownBy w' (some b)->wpList Tryz.prog ops Q rest (a.put o.dst undef) w'):wpList Tryz.prog ops Q (o::rest) a w:=by
 obtain⟨n,D,hn,hown,hD,hat⟩:=h;have H0:keyOf Tryz.prog 9 (.string ⟨s.toArray⟩)=some (.string s):=by simpa using keyOf_string_mk (P:= Tryz.prog) Tryz.underlying9 (s:=⟨s.toArray⟩) (by simp[ByteArray.size,maxLen];omega)
 have H1:=List.count_le_length (a:=s) (l:=l);refine wpList_mapUpdate_own _ hg m x v 107 hop 9 3 (Maps.string_keyed (P:= Tryz.prog) Tryz.underlying9) Tryz.underlying107 _ b n _ hm hown (by unfold maxLen;omega) _ _ _ hx hv H0 _ [] (plainElem_int Tryz.underlying3 (zpiZ c (by omega) (by omega))) ?_;intro w' h1 h2;subst hc;refine hK w' ⟨n+1,_,by simp;omega,h1,hD.put _ _,fun t=>?_⟩ h2;rw[List.count_append];by_cases hts:t=s
 ·subst hts;rw[Maps.atKey_put_same hD (by trivial)];simp
 ·rw[Maps.atKey_put_other (by intro e;injection e with e;exact hts e),hat t];have:List.count t [s]=0:=(by rw[List.count_eq_zero];simpa using hts);rw[this,ypZ]
theorem zgdZ (ns:List Lx.Bytes) (v:Value) (w:World) (hG:GS w) (hN:NG<=w.heap.size) (hv:StrRow w v ns) (hl:ns.length<=1000000) (hs:∀s∈ns,s.length<=1000000000) :
  Calls Tryz.prog 108 #[v] w fun e w'=>e=.returned (.bool (Sx.apart NM ns))/\Below w.heap.size w w':=by
 have Hx:=@run_makeMap Tryz.prog;obtain⟨A,c,rfl,hi⟩:=hv;have hv:StrRow w (.slice A ns.length c) ns:=⟨A,c,rfl,hi⟩;have HV:=zh hv;have HG:=zh hG;have HS:=zh hs;obtain⟨L,hL⟩:=zE (w.heap.size);obtain⟨w2,hw2⟩:=zE (w.alloc (.map #[] 0));have Hj:Counts L [] w2:=⟨0,.map [],ybZ _,by rw[<-hw2,<-hL];exact World.ownsMap_made w _ _ _,Maps.isMap_empty,fun s=>rfl⟩;have Hi:Below L w w2:=by rw[<-hw2,<-hL];exact zeZ (yeZ w _ none)
 have Hs:L<w2.heap.size:=by rw[<-hw2];simp;omega
 have Hl:=zh Hj;have Hp:=zh Hi;have HL:=zh hL;have hNL:NG<=L:=by omega
 clear hv hi hG hs Hj Hi;go_enter Tryz.func108, Tryz.ntmps108;go_wp2_with fail;go_loopg [9] (ns.length) (fun i v wr=>∃(m:Nat),i=ns.length-m/\v=.int .i64 (m:Int)/\m<=ns.length/\Counts L (ns.take m) wr/\Below L w wr/\L<wr.heap.size/\(∀s∈ns.take m,NM.small s=true)/\(ns.take m).Nodup)
 case atStart=>exact⟨0,rfl,rfl,yxZ _,Hl.o,Hp.o,Hs,by simp,by simp⟩
 case round=>
  obtain⟨m,hi,rfl,hm,hC,hb,hlr,hsm,hnd⟩:=hrel;have HI:=zh hi;have HC:=zh hC;have HB:=zh hb;have He:=zh hsm;have Hf:=zh hnd;have m0:(0:Int)<=(m:Int):=(by omega);clear hi hC hb hsm hnd;by_cases hlt:m<ns.length
  ·have Hm:(m:Int)<(ns.length:Int):=(by omega);obtain⟨g,off,rfl,hsp⟩:=HV.o.spot m hlt;obtain⟨q0,q1⟩:=hsp wr (by rw[HL.o];exact HB.o);have Ha:=ykZ hlt;have H0:=yfZ hlt;obtain⟨s,hse⟩:=zE (ns[m]'hlt);rw[hse]at q1 Ha H0;have Hq:=HS.o s H0;have Hg:=HC.o.look s (by omega);obtain⟨k,hk⟩:=zE ((ns.take m).count s);have Hu:k<=1000000:=(by have:=List.count_le_length (a:=s) (l:=ns.take m);simp at this;omega);have Ht:(k:Int)<=1000000:=(by omega);have Hv:(0:Int)<=(k:Int):=(by omega);rw[hk]at Hg;have H6:=zh Ha;have HK:=zh hk;have Hb:=zh H0;clear Ha hk H0 hsp hse;go_wp2_with (at_mapUpdate;refine zlmZ HC.o s (by omega) (by simp;omega) rfl _ _ _ rfl rfl rfl rfl (by rw[HK.o]) ?_);intro w3 hC3 H5;have H9:Below L w w3:=HB.o.grown H5 (by omega) (fun j e=>by injection e with e;omega);have hG3:=HG.o.below (by rw[HL.o];exact H9);have H3:=hC3.look s (by omega);have Hh:(ns.take m++[s]).count s=k+1:=(by rw[List.count_append,HK.o];simp);rw[Hh]at H3;have Hn:=H5.size;have H1:=znhZ s w3 hG3 (by omega) Hq;have Ho:=zh hC3;have Hc:=zh H9;have H7:=zh H1;obtain⟨kk,hkk⟩:=zE (k+1);rw[hkk]at H3;have H8:=zh hkk;clear H5 hC3 H9 hG3 Hh H1 Hg hkk;by_cases hz:k=0
   ·have Hk:decide ((1:Int)<(kk:Int))=false:=(by simp;have:=H8.o;omega);have Hd:¬(1:Int)<(kk:Int):=(by have:=H8.o;omega);have HZ:=zh hz;clear hz
    cases hsmall:NM.small s with
    | true=>
     rw[hsmall]at H7;have H2:=zh hsmall;clear hsmall;go_wp2_with (go_at_call 132;refine H7.o.mono ?_;rintro e w4 ⟨rfl,H4⟩);go_roundg (ns.length-(m+1))
     case measure=>have:=HI.o;omega
     case rel=>
      refine⟨m+1,rfl,by simp,hlt,?_,Hc.o.trans (H4.mono (by omega)),yJZ (by omega) H4.size,?_,?_⟩
      ·rw[H6.o];exact Ho.o.below H4
      ·rw[H6.o];intro t ht;rcases yfbZ.1 ht with h | h
       ·exact He.o t h
       ·rw[yWZ]at h;rw[h];exact H2.o
      ·rw[H6.o,List.nodup_append];refine⟨Hf.o,by simp,?_⟩;intro a ha b hb Hr;rw[yWZ]at hb;subst hb Hr;have:=List.count_eq_zero.1 (HK.o.trans HZ.o);exact this ha
    | false=>
     rw[hsmall]at H7
     have HF:=zh (show Sx.apart NM ns=false by
      cases h:Sx.apart NM ns with
      | false=>rfl
      | true=>have:=((Sx.apart_iff _ _).1 h).1 s Hb.o;rw[hsmall]at this;cases this)
     clear hsmall;go_wp2_with (go_at_call 132;refine H7.o.mono ?_;rintro e w4 ⟨rfl,H4⟩);go_ret;rw[HF.o,HL.o];exact⟨rfl,Hc.o.trans (H4.mono (by omega))⟩
   ·have Hk:decide ((1:Int)<(kk:Int))=true:=(by simp;have:=H8.o;omega);have Hd:(1:Int)<(kk:Int):=by have:=H8.o;omega
    have HF:=zh (show Sx.apart NM ns=false by
     cases h:Sx.apart NM ns with
     | false=>rfl
     | true=>
      have hn:=((Sx.apart_iff _ _).1 h).2;have h2:(ns.take m++[s]).Nodup:=(by rw[<-H6.o];exact hn.sublist (List.take_sublist _ _));rw[List.nodup_append]at h2;have h3:s∈ns.take m:=Decidable.byContradiction fun hne=>by have:=List.count_eq_zero.2 hne;have:=HK.o;omega
      exact absurd rfl (h2.2.2 s h3 s (by simp)))
    go_wp2_with fail
    go_ret;rw[HF.o,HL.o];exact⟨rfl,Hc.o⟩
  ·have Hm:¬(m:Int)<(ns.length:Int):=by omega
   have HT:=zh (show Sx.apart NM ns=true by
    rw[Sx.apart_iff];have h1:=He.o;have h2:=Hf.o;rw[yjZ (by omega)]at h1 h2
    exact⟨h1,h2⟩)
   go_wp2_with fail
   go_ret;rw[HT.o];exact⟨rfl,HB.o⟩
theorem Sx.shape_kind {N:Sx.Names} {k:Int} {n:Lx.Bytes} {ns:List Lx.Bytes} {es:List Bool} {ps:List Sx.Ty} (h:Sx.shape N k n ns es ps=true):k=1\/k=2\/k=3\/k=4\/k=5\/k=6\/k=7\/k=8:=by
 unfold Sx.shape at h;split at h
 ·omega
 ·split at h
  ·omega
  ·split at h
   ·omega
   ·split at h
    ·omega
    ·split at h
     ·omega
     ·split at h
      ·omega
      ·cases h
theorem zeeZ (N:Sx.Names) (hN:Sx.NamesOk N) (W0:World) (b:Nat):∀(n:Nat) (t:Sx.Ty),Sx.size t<=n->TypOk N W0 b t/\SigOk N W0 b t:=by
 intro n
 induction n with
 | zero=>intro t h;have:=Sx.size_pos t;omega
 | succ n ih=>
  intro t hn;have hp:∀p∈t.parts,TypOk N W0 b p/\SigOk N W0 b p:=(by intro p hp;refine ih p ?_;have:=Sx.size_mem hp;have:=Sx.size_parts t;omega);have H0:=zwqZ N W0 b t (fun p h=>(hp p h).1);refine⟨?_,H0⟩;intro d v c l w hr ht h hc;obtain⟨d',hd,hr',hsh⟩:=Sx.right_parts hr;rcases Sx.shape_kind hsh with hk | hk | hk | hk | hk | hk | hk | hk
  ·exact zuyZ N hN W0 b t hk d v c l w hr ht h hc
  ·exact zuzZ N hN W0 b t hk d v c l w hr ht h hc
  ·exact zvaZ N hN W0 b t hk d v c l w hr ht h hc
  ·exact zvbZ N hN W0 b t hk d v c l w hr ht h hc
  ·exact zvcZ N hN W0 b t (fun p h=>(hp p h).1) hk d v c l w hr ht h hc
  ·exact zveZ N hN W0 b t (fun p h=>(hp p h).1) hk d v c l w hr ht h hc
  ·exact zvdZ N hN W0 b t H0 hk d v c l w hr ht h hc
  ·exact zvfZ N hN W0 b t (fun p h=>(hp p h).2) hk d v c l w hr ht h hc
end Go.Proofs.YtdncljdfmdgdaaaGreatDoor
