/-
  The walk of expr: a call, an application; all kinds.
-/
import Derived.Test.YtdncljdfmdgdaaaGreatDoorM1
import Derived.Test.YtdncljdfmdgdaaaGreatDoorM25
import Derived.Test.YtdncljdfmdgdaaaGreatDoorM22
set_option linter.unusedSimpArgs false
set_option linter.unusedVariables false
set_option maxRecDepth 100000
set_option maxHeartbeats 8000000
namespace Go.Proofs.YtdncljdfmdgdaaaGreatDoor
open Go.RowKit Go.Shelf Go.WideMaps
theorem Sx.sizeXs_tail (l:List Sx.Ex):Sx.sizeXs l.tail≤Sx.sizeXs l:=by
 cases l with
 | nil=>exact Nat.le_refl _
 | cons x l=>rw[List.tail_cons,Sx.sizeXs];omega
theorem zpbZ {W0:World} {b:Nat} {x:Sx.Ex} (ih:∀p∈x.parts,ExprOk W0 b p) (hG:GS W0) (hN:NG≤W0.heap.size) (hkd:x.kind=10):ExprOk W0 b x:=by
 intro v l w hr ht hz h hc
 obtain⟨hsh,hrp⟩:=hr.shape
 have Hp:=Sx.sizeX_parts x
 have Hs:=Sx.textX_len x
 rw[Sx.expr_eq,hkd]at hc ⊢
 rw[hkd]at hsh
 simp only[Int.reduceEq,if_true,if_false,or_false,false_or,or_true,true_or,reduceIte,Nat.reduceEqDiff]at hc ⊢
 simp[Sx.shapeX]at hsh
 have Ha:=hsh.1
 have Hq:1≤x.parts.length:=by have:=hsh;omega
 have H6:0<x.parts.length:=by omega
 obtain⟨At,ct,An,cn,Ap,cp,rfl,htt,hnn,hp,hn0,hn1⟩:=ht.agg
 rw[hkd]
 obtain⟨g0,off0,At0,ct0,An0,cn0,Ap0,cp0,hA0,hty0,hc0⟩:=hp.spot 0 H6
 obtain⟨p0,hpe0⟩:=zE (x.parts[0]'H6)
 have H0:p0∈x.parts:=by rw[←hpe0];exact List.getElem_mem H6
 rw[hpe0]at hc0 hty0
 have Hh:Sx.sizeX p0≤1000000:=by have:=Sx.sizeX_mem H0;omega
 have Hg:(0:Int)<(x.parts.length:Int):=by omega
 have Hb:=zh hc0
 have Hc:=zh hty0
 clear hc0 hty0
 subst hA0
 obtain⟨V,hV⟩:=zE (sliced (some ⟨g0,off0,none⟩) 1 x.parts.length cp 7)
 have Hn:∀w,(Instr.slice 37 (.slice (some ⟨g0,off0,none⟩) x.parts.length cp) (some (.int .i64 1)) none none).run Tryz.prog w=.ok V w:=fun w=>by rw[zeqZ _ _ _ _ (by omega),hV]
 have He:=hp.tail H6
 rw[hV]at He
 have H8:=zmhZ (b:=b) (xs:=x.parts.tail) (fun p hm=>ih p (List.mem_of_mem_tail hm))
 have H9:Sx.sizeXs x.parts.tail≤1000000:=by have:=Sx.sizeXs_tail x.parts;omega
 obtain⟨qa,hqa⟩:=zE (Sx.listed x.parts.tail)
 have H7:=Sx.args_tail H6
 rw[hqa]at H7
 have H1:=Sx.first_head 7 H6
 rw[hpe0]at H1
 obtain⟨q0,hq0⟩:=zE (Sx.part 7 p0)
 rw[hq0]at H1
 rw[H1,H7]at hc ⊢
 have Hd:l.length+(q0.length+2+qa.length)≤900000000:=by simp at hc;omega
 have Hj:x.s≠[]∧x.s.length≤1000000000:=⟨NM.ok.small _ Ha,by omega⟩
 have HA:=zh (show ∀u w,IsEx W0 u p0→Wrote W0 b (l).length (l) w→Calls Tryz.prog 116 #[.pointer (some ⟨b,0,none⟩),u,.int .i64 (7)] w fun e w'=>e=.returned (.tuple #[])∧Wrote W0 b (l++q0).length (l++q0) w'∧KeepW w w' from fun u w hu hw=>by
  have:=zbvZ (ih p0 H0) (7) (by omega) (hrp p0 H0).kind.1 (hrp p0 H0).kind.2 u (l) w (hrp p0 H0) hu Hh hw (by rw[hq0];(try simp);omega)
  rw[hq0]at this
  exact this)
 have Ho:=zh (show ∀w,Wrote W0 b (l++q0++[[46],x.s]).length (l++q0++[[46],x.s]) w→Calls Tryz.prog 117 #[.pointer (some ⟨b,0,none⟩),V] w fun e w'=>e=.returned (.tuple #[])∧Wrote W0 b (l++q0++[[46],x.s]++qa).length (l++q0++[[46],x.s]++qa) w'∧KeepW w w' from fun w hw=>by
  have:=H8 V (l++q0++[[46],x.s]) w (fun p hm=>hrp p (List.mem_of_mem_tail hm)) He H9 hw (by rw[hqa];(try simp);omega)
  rw[hqa]at this
  exact this)
 have hb:(l++q0).length+2≤1000000000:=by simp;omega
 have Hr:=zh Hj
 have Ht:(1:Int)≤(x.parts.length:Int):=by omega
 obtain⟨L,hL⟩:=zE (w.heap.size)
 obtain⟨w2,hw2⟩:=zE (w.alloc (.cells #[.int .i64 x.pos,.int .i64 10,.int .i64 x.n,.string ⟨x.s.toArray⟩,.slice At x.t.length ct,.slice An x.names.length cn,.slice (some ⟨g0,off0,none⟩) x.parts.length cp] 39))
 have Hf:=Live.first h #[.int .i64 x.pos,.int .i64 10,.int .i64 x.n,.string ⟨x.s.toArray⟩,.slice At x.t.length ct,.slice An x.names.length cn,.slice (some ⟨g0,off0,none⟩) x.parts.length cp] 39 hw2
 rw[hL]at Hf
 have H2:=zh Hf
 clear Hf h
 clear hr ht hz hc hsh hrp Hp Hs htt hnn hp hn0 hn1 hkd ih hG hN hpe0 H0 Hh H6 Ha Hq Hj Hd hq0 H1 hqa H7 H9 H8 He hV
 go_enter Tryz.func64, Tryz.ntmps64
 obtain⟨x0,x1,x2,x3,x4,x5,x6⟩:=zbZ H2.o.b1
 obtain⟨hl1,hl2,hbl⟩:=H2.o.lt
 obtain⟨dg,d0,d1,d2,d3,d4,d5,d6⟩:=Hb.o w2 H2.o.wr.below
 rw[Nat.zero_mul,Nat.add_zero]at d0 d1 d2 d3 d4 d5 d6
 go_upto_region 24 with(go_at_call 116;refine(HA.o _ w2 Hc.o H2.o.wr).mono ?_;rintro e w3 ⟨rfl,hW3,Hi⟩)
 have H3:=zh (H2.o.go oEx oEx hW3 Hi)
 clear hW3 Hi
 clear x0 x1 x2 x3 x4 x5 x6 hl1 hl2 hbl d0 d1 d2 d3 d4 d5 d6 dg
 obtain⟨x0,x1,x2,x3,x4,x5,x6⟩:=zbZ H3.o.b1
 obtain⟨hl1,hl2,hbl⟩:=H3.o.lt
 obtain⟨dg,d0,d1,d2,d3,d4,d5,d6⟩:=Hb.o w3 H3.o.wr.below
 rw[Nat.zero_mul,Nat.add_zero]at d0 d1 d2 d3 d4 d5 d6
 go_upto_region 24 with fail
 have Hl:=zh H3.o.drew
 go_region_with (go_at_call 100;refine(Hl.o.lput2 [46] x.s ⟨by simp,by simp⟩ Hr.o hb).mono ?_;rintro e w4 ⟨rfl,hW4,Hk⟩)
 have H4:=zh (Hl.o.go oEx oEx hW4 Hk)
 clear hW4 Hk
 clear x0 x1 x2 x3 x4 x5 x6 hl1 hl2 hbl d0 d1 d2 d3 d4 d5 d6 dg
 obtain⟨x0,x1,x2,x3,x4,x5,x6⟩:=zbZ H4.o.b1
 obtain⟨hl1,hl2,hbl⟩:=H4.o.lt
 obtain⟨dg,d0,d1,d2,d3,d4,d5,d6⟩:=Hb.o w4 H4.o.wr.below
 rw[Nat.zero_mul,Nat.add_zero]at d0 d1 d2 d3 d4 d5 d6
 go_wp2_with (go_at_call 117;refine(Ho.o w4 H4.o.wr).mono ?_;rintro e w5 ⟨rfl,hW5,Hm⟩)
 have H5:=zh (H4.o.go oEx oEx hW5 Hm)
 clear hW5 Hm
 clear x0 x1 x2 x3 x4 x5 x6 hl1 hl2 hbl d0 d1 d2 d3 d4 d5 d6 dg
 go_end0
 refine⟨rfl,?_,H5.o.kp⟩
 have h9:=H5.o.wr
 simpa[List.append_assoc]using h9
theorem zpcZ {W0:World} {b:Nat} {x:Sx.Ex} (ih:∀p∈x.parts,ExprOk W0 b p) (hG:GS W0) (hN:NG≤W0.heap.size) (hkd:x.kind=11):ExprOk W0 b x:=by
 intro v l w hr ht hz h hc
 obtain⟨hsh,hrp⟩:=hr.shape
 have Hi:=Sx.sizeX_parts x
 have Hk:=Sx.textX_len x
 rw[Sx.expr_eq,hkd]at hc ⊢
 rw[hkd]at hsh
 simp only[Int.reduceEq,if_true,if_false,or_false,false_or,or_true,true_or,reduceIte,Nat.reduceEqDiff]at hc ⊢
 simp[Sx.shapeX]at hsh
 have Hj:1≤x.parts.length:=by have:=hsh;omega
 have H5:0<x.parts.length:=by omega
 obtain⟨At,ct,An,cn,Ap,cp,rfl,htt,hnn,hp,hn0,hn1⟩:=ht.agg
 rw[hkd]
 obtain⟨g0,off0,At0,ct0,An0,cn0,Ap0,cp0,hA0,hty0,hc0⟩:=hp.spot 0 H5
 obtain⟨p0,hpe0⟩:=zE (x.parts[0]'H5)
 have H0:p0∈x.parts:=by rw[←hpe0];exact List.getElem_mem H5
 rw[hpe0]at hc0 hty0
 have Hg:Sx.sizeX p0≤1000000:=by have:=Sx.sizeX_mem H0;omega
 have Hl:(0:Int)<(x.parts.length:Int):=by omega
 have Hc:=zh hc0
 have H9:=zh hty0
 clear hc0 hty0
 subst hA0
 obtain⟨V,hV⟩:=zE (sliced (some ⟨g0,off0,none⟩) 1 x.parts.length cp 7)
 have Hm:∀w,(Instr.slice 37 (.slice (some ⟨g0,off0,none⟩) x.parts.length cp) (some (.int .i64 1)) none none).run Tryz.prog w=.ok V w:=fun w=>by rw[zeqZ _ _ _ _ (by omega),hV]
 have Hd:=hp.tail H5
 rw[hV]at Hd
 have H7:=zmhZ (b:=b) (xs:=x.parts.tail) (fun p hm=>ih p (List.mem_of_mem_tail hm))
 have H8:Sx.sizeXs x.parts.tail≤1000000:=by have:=Sx.sizeXs_tail x.parts;omega
 obtain⟨qa,hqa⟩:=zE (Sx.listed x.parts.tail)
 have H6:=Sx.args_tail H5
 rw[hqa]at H6
 have H1:=Sx.applied_head H5
 rw[hpe0]at H1
 rw[H6]at hc ⊢
 obtain⟨kd0,hkd0⟩:=zE (p0.kind)
 rw[hkd0]at H1
 have Hn:(1:Int)≤(x.parts.length:Int):=by omega
 by_cases h9:kd0=9
 ·have b9:(kd0==9)=true:=by rw[beq_iff_eq];exact h9
  rw[if_pos h9]at H1
  obtain⟨q0,hq0⟩:=zE (Sx.within p0)
  rw[hq0]at H1
  rw[H1]at hc ⊢
  have Ha:l.length+(q0.length+qa.length)≤900000000:=by simp at hc;omega
  have HA:=zh (show ∀u w,IsEx W0 u p0→Wrote W0 b l.length l w→Calls Tryz.prog 118 #[.pointer (some ⟨b,0,none⟩),u] w fun e w'=>e=.returned (.tuple #[])∧Wrote W0 b (l++q0).length (l++q0) w'∧KeepW w w' from fun u w hu hw=>by
   have:=zimZ (ih p0 H0) u l w (hrp p0 H0) hu Hg hw (by rw[hq0];omega)
   rw[hq0]at this
   exact this)
  have Hh:=zh (show ∀w,Wrote W0 b (l++q0).length (l++q0) w→Calls Tryz.prog 117 #[.pointer (some ⟨b,0,none⟩),V] w fun e w'=>e=.returned (.tuple #[])∧Wrote W0 b (l++q0++qa).length (l++q0++qa) w'∧KeepW w w' from fun w hw=>by
   have:=H7 V (l++q0) w (fun p hm=>hrp p (List.mem_of_mem_tail hm)) Hd H8 hw (by rw[hqa];(try simp);omega)
   rw[hqa]at this
   exact this)
  rw[hkd0]at Hc H9
  obtain⟨L,hL⟩:=zE (w.heap.size)
  obtain⟨w2,hw2⟩:=zE (w.alloc (.cells #[.int .i64 x.pos,.int .i64 11,.int .i64 x.n,.string ⟨x.s.toArray⟩,.slice At x.t.length ct,.slice An x.names.length cn,.slice (some ⟨g0,off0,none⟩) x.parts.length cp] 39))
  have Hb:=Live.first h #[.int .i64 x.pos,.int .i64 11,.int .i64 x.n,.string ⟨x.s.toArray⟩,.slice At x.t.length ct,.slice An x.names.length cn,.slice (some ⟨g0,off0,none⟩) x.parts.length cp] 39 hw2
  rw[hL]at Hb
  have H2:=zh Hb
  clear Hb h
  clear hr ht hz hc hsh hrp Hi Hk htt hnn hp hn0 hn1 hkd ih hG hN hpe0 H0 Hg H5 Hj Ha hq0 H1 hqa H6 H8 H7 Hd hV hkd0 h9
  go_enter Tryz.func64, Tryz.ntmps64
  obtain⟨x0,x1,x2,x3,x4,x5,x6⟩:=zbZ H2.o.b1
  obtain⟨hl1,hl2,hbl⟩:=H2.o.lt
  obtain⟨dg,d0,d1,d2,d3,d4,d5,d6⟩:=Hc.o w2 H2.o.wr.below
  rw[Nat.zero_mul,Nat.add_zero]at d0 d1 d2 d3 d4 d5 d6
  go_upto_region 30 with(go_at_call 118;refine(HA.o _ w2 H9.o H2.o.wr).mono ?_;rintro e w3 ⟨rfl,hW3,He⟩)
  have H3:=zh (H2.o.go oEx oEx hW3 He)
  clear hW3 He
  clear x0 x1 x2 x3 x4 x5 x6 hl1 hl2 hbl d0 d1 d2 d3 d4 d5 d6 dg
  obtain⟨x0,x1,x2,x3,x4,x5,x6⟩:=zbZ H3.o.b1
  obtain⟨hl1,hl2,hbl⟩:=H3.o.lt
  obtain⟨dg,d0,d1,d2,d3,d4,d5,d6⟩:=Hc.o w3 H3.o.wr.below
  rw[Nat.zero_mul,Nat.add_zero]at d0 d1 d2 d3 d4 d5 d6
  go_wp2_with (go_at_call 117;refine(Hh.o w3 H3.o.wr).mono ?_;rintro e w4 ⟨rfl,hW4,Hf⟩)
  have H4:=zh (H3.o.go oEx oEx hW4 Hf)
  clear hW4 Hf
  clear x0 x1 x2 x3 x4 x5 x6 hl1 hl2 hbl d0 d1 d2 d3 d4 d5 d6 dg
  go_end0
  refine⟨rfl,?_,H4.o.kp⟩
  have h9:=H4.o.wr
  simpa[List.append_assoc]using h9
 ·have b9:(kd0==9)=false:=by rw[beq_eq_false_iff_ne];exact h9
  rw[if_neg h9]at H1
  obtain⟨q0,hq0⟩:=zE (Sx.part 7 p0)
  rw[hq0]at H1
  rw[H1]at hc ⊢
  have Ha:l.length+(q0.length+qa.length)≤900000000:=by simp at hc;omega
  have HA:=zh (show ∀u w,IsEx W0 u p0→Wrote W0 b (l).length (l) w→Calls Tryz.prog 116 #[.pointer (some ⟨b,0,none⟩),u,.int .i64 (7)] w fun e w'=>e=.returned (.tuple #[])∧Wrote W0 b (l++q0).length (l++q0) w'∧KeepW w w' from fun u w hu hw=>by
   have:=zbvZ (ih p0 H0) (7) (by omega) (hrp p0 H0).kind.1 (hrp p0 H0).kind.2 u (l) w (hrp p0 H0) hu Hg hw (by rw[hq0];(try simp);omega)
   rw[hq0]at this
   exact this)
  have Hh:=zh (show ∀w,Wrote W0 b (l++q0).length (l++q0) w→Calls Tryz.prog 117 #[.pointer (some ⟨b,0,none⟩),V] w fun e w'=>e=.returned (.tuple #[])∧Wrote W0 b (l++q0++qa).length (l++q0++qa) w'∧KeepW w w' from fun w hw=>by
   have:=H7 V (l++q0) w (fun p hm=>hrp p (List.mem_of_mem_tail hm)) Hd H8 hw (by rw[hqa];(try simp);omega)
   rw[hqa]at this
   exact this)
  rw[hkd0]at Hc H9
  obtain⟨L,hL⟩:=zE (w.heap.size)
  obtain⟨w2,hw2⟩:=zE (w.alloc (.cells #[.int .i64 x.pos,.int .i64 11,.int .i64 x.n,.string ⟨x.s.toArray⟩,.slice At x.t.length ct,.slice An x.names.length cn,.slice (some ⟨g0,off0,none⟩) x.parts.length cp] 39))
  have Hb:=Live.first h #[.int .i64 x.pos,.int .i64 11,.int .i64 x.n,.string ⟨x.s.toArray⟩,.slice At x.t.length ct,.slice An x.names.length cn,.slice (some ⟨g0,off0,none⟩) x.parts.length cp] 39 hw2
  rw[hL]at Hb
  have H2:=zh Hb
  clear Hb h
  clear hr ht hz hc hsh hrp Hi Hk htt hnn hp hn0 hn1 hkd ih hG hN hpe0 H0 Hg H5 Hj Ha hq0 H1 hqa H6 H8 H7 Hd hV hkd0 h9
  go_enter Tryz.func64, Tryz.ntmps64
  obtain⟨x0,x1,x2,x3,x4,x5,x6⟩:=zbZ H2.o.b1
  obtain⟨hl1,hl2,hbl⟩:=H2.o.lt
  obtain⟨dg,d0,d1,d2,d3,d4,d5,d6⟩:=Hc.o w2 H2.o.wr.below
  rw[Nat.zero_mul,Nat.add_zero]at d0 d1 d2 d3 d4 d5 d6
  go_upto_region 30 with(go_at_call 116;refine(HA.o _ w2 H9.o H2.o.wr).mono ?_;rintro e w3 ⟨rfl,hW3,He⟩)
  have H3:=zh (H2.o.go oEx oEx hW3 He)
  clear hW3 He
  clear x0 x1 x2 x3 x4 x5 x6 hl1 hl2 hbl d0 d1 d2 d3 d4 d5 d6 dg
  obtain⟨x0,x1,x2,x3,x4,x5,x6⟩:=zbZ H3.o.b1
  obtain⟨hl1,hl2,hbl⟩:=H3.o.lt
  obtain⟨dg,d0,d1,d2,d3,d4,d5,d6⟩:=Hc.o w3 H3.o.wr.below
  rw[Nat.zero_mul,Nat.add_zero]at d0 d1 d2 d3 d4 d5 d6
  go_wp2_with (go_at_call 117;refine(Hh.o w3 H3.o.wr).mono ?_;rintro e w4 ⟨rfl,hW4,Hf⟩)
  have H4:=zh (H3.o.go oEx oEx hW4 Hf)
  clear hW4 Hf
  clear x0 x1 x2 x3 x4 x5 x6 hl1 hl2 hbl d0 d1 d2 d3 d4 d5 d6 dg
  go_end0
  refine⟨rfl,?_,H4.o.kp⟩
  have h9:=H4.o.wr
  simpa[List.append_assoc]using h9
theorem zhlZ {W0:World} {b:Nat} (hG:GS W0) (hN:NG≤W0.heap.size):∀(n:Nat) (x:Sx.Ex),Sx.sizeX x≤n→ExprOk W0 b x:=by
 intro n
 induction n with
 | zero=>intro x h;have:=Sx.sizeX_pos x;omega
 | succ n ihn=>
  intro x hx
  have ih:∀p∈x.parts,ExprOk W0 b p:=fun p hp=>ihn p (by
   have:=Sx.sizeX_mem hp
   have:=Sx.sizeX_parts x
   omega)
  intro v l w hr ht hz h hc
  have hk:=hr.kind
  have:x.kind=1∨x.kind=2∨x.kind=3∨x.kind=4∨x.kind=5∨x.kind=6∨x.kind=7∨x.kind=8∨x.kind=9∨x.kind=10∨x.kind=11∨x.kind=12∨x.kind=13∨x.kind=14∨15≤x.kind:=by omega
  rcases this with h1 | h1 | h1 | h1 | h1 | h1 | h1 | h1 | h1 | h1 | h1 | h1 | h1 | h1 | h1
  ·exact zrtZ ih hG hN h1 v l w hr ht hz h hc
  ·exact zruZ ih hG hN h1 v l w hr ht hz h hc
  ·exact zrvZ ih hG hN h1 v l w hr ht hz h hc
  ·exact zrsZ ih hG hN h1 v l w hr ht hz h hc
  ·exact zrrZ ih hG hN h1 v l w hr ht hz h hc
  ·exact zrwZ ih hG hN h1 v l w hr ht hz h hc
  ·exact zrxZ ih hG hN h1 v l w hr ht hz h hc
  ·exact zryZ ih hG hN h1 v l w hr ht hz h hc
  ·exact zrzZ ih hG hN h1 v l w hr ht hz h hc
  ·exact zpbZ ih hG hN h1 v l w hr ht hz h hc
  ·exact zpcZ ih hG hN h1 v l w hr ht hz h hc
  ·exact zoxZ ih hG hN h1 v l w hr ht hz h hc
  ·exact zoyZ ih hG hN h1 v l w hr ht hz h hc
  ·exact zozZ ih hG hN h1 v l w hr ht hz h hc
  ·exact zpaZ ih h1 v l w hr ht hz h hc
theorem zhzZ (t:Sx.Ex) (v:Value) (W:World) (hG:GS W) (hN:NG≤W.heap.size) (ht:IsEx W v t) (hsz:Sx.sizeX t≤1000000) (hlen:(Sx.expr SY t).length≤900000000) :
  Calls Tryz.prog 23 #[v] W fun e W'=>e=.returned (.tuple #[.string ⟨(Sx.said (Sx.rightX NM 64 t) (Sx.expr SY t)).1.toArray⟩,.int .i64 ((Sx.said (Sx.rightX NM 64 t) (Sx.expr SY t)).2:Nat)])∧Below W.heap.size W W':=by
 have He:∀X,Below W.heap.size W X→Calls Tryz.prog 63 #[v,.int .i64 64] X fun e W'=>e=.returned (.bool (Sx.rightX NM 64 t))∧Below X.heap.size X W':=fun X hb=>zdqZ _ t (Nat.le_refl _) 64 (by omega) v X (hG.below hb) (Nat.le_trans hN hb.size) (IsEx.below hb t v ht) hsz
 have H6:=fun b w (hr:Sx.rightX NM 64 t=true) (h:Wrote W b 0 [] w)=>zhlZ (b:=b) hG hN _ t (Nat.le_refl _) v [] w ⟨64,hr⟩ ht hsz h (by simpa using hlen)
 obtain⟨At,ct,An,cn,Ap,cp,rfl,-⟩:=ht.agg
 obtain⟨L,hL⟩:=zE (W.heap.size)
 obtain⟨w2,hw2⟩:=zE (W.alloc (.cells #[.int .i64 t.pos,.int .i64 t.kind,.int .i64 t.n,.string ⟨t.s.toArray⟩,.slice At t.t.length ct,.slice An t.names.length cn,.slice Ap t.parts.length cp] 39))
 have H5:w2.heap[L]? =some (.cells #[.int .i64 t.pos,.int .i64 t.kind,.int .i64 t.n,.string ⟨t.s.toArray⟩,.slice At t.t.length ct,.slice An t.names.length cn,.slice Ap t.parts.length cp] 39 (0,0)):=by rw[←hw2,←hL];exact heap_alloc_new W _
 have Ha:Below W.heap.size W w2:=by rw[←hw2];exact zeZ (World.grownBy_alloc W _ none)
 obtain⟨K,hK⟩:=zE (w2.heap.size)
 have hLK:L≤K∧L<K:=by rw[←hK,←hw2,←hL];simp
 obtain⟨w3,hw3⟩:=zE (w2.alloc (.cells #[.pointer none,.slice none 0 0,.int .i64 0] 104))
 have H0:w3.heap[K]? =some (.cells #[.pointer none,.slice none 0 0,.int .i64 0] 104 (0,0)):=by rw[←hw3,←hK];exact heap_alloc_new w2 _
 have Hb:Below w2.heap.size w2 w3:=by rw[←hw3];exact zeZ (World.grownBy_alloc w2 _ none)
 have H7:Below W.heap.size W w3:=Ha.trans (Hb.mono Ha.size)
 have H1:=(Hb.block L (by omega)).trans H5
 have Hd:K<w3.heap.size:=zaZ H0
 obtain⟨x0,x1,x2,x3,x4,x5,x6⟩:=zbZ H1
 have Hh:=zaZ H1
 have Hc:=zh (show ∀w4,Below w3.heap.size w3 w4→Wrote W K 0 [] w4∧K<w4.heap.size∧w4.heap[L]? =w3.heap[L]? from fun w4 H2=>
  ⟨Wrote.fresh (by omega) ((H2.block K Hd).trans H0) (H7.trans (H2.mono H7.size)),Nat.lt_of_lt_of_le Hd H2.size,H2.block L Hh⟩)
 have H8:=zh (He w3 H7)
 have H9:=zh H6
 have Hf:=zh H0
 have H4:=zh H1
 have Hm:=zh H7
 have HL:=zh hL
 have Hk:=zh hLK
 have Hn:=zh hsz
 have Hg:=zh hlen
 clear hLK He H6 ht hlen H5 Ha Hb H7 H1 H0 hG hsz
 cases hr:Sx.rightX NM 64 t with
 | false=>
  rw[hr]at H8
  have HR:=zh hr
  clear hr
  go_enter Tryz.func23, Tryz.ntmps23
  go_wp2_with (first
   | (go_at_call 63;refine H8.o.mono ?_;rintro e w4 ⟨rfl,H2⟩;obtain⟨hW,hl4,-⟩:=Hc.o w4 H2;have hW4:=zh hW;clear H2 hW)
   | (go_at_call 60;refine(zdnZ hW4.o (by omega) false (fun _=>rfl)).mono ?_;rintro e w5 ⟨rfl,Hi⟩))
  refine bodyPost_ret (results_tmp2 rfl _ _ _) rfl ?_
  exact⟨rfl,Hi⟩
 | true=>
  rw[hr]at H8
  have HR:=zh hr
  clear hr
  go_enter Tryz.func23, Tryz.ntmps23
  go_wp2_with (first
   | (go_at_call 63;refine H8.o.mono ?_;rintro e w4 ⟨rfl,H2⟩;obtain⟨hW,hl4,hbl4⟩:=Hc.o w4 H2;have hW4:=zh hW;have H3:=hbl4.trans H4.o;clear H2 hW hbl4 x0 x1 x2 x3 x4 x5 x6;obtain⟨x0,x1,x2,x3,x4,x5,x6⟩:=zbZ H3;clear H3)
   | (go_at_call 64;refine(H9.o (K) w4 HR.o hW4.o).mono ?_;rintro e w5 ⟨rfl,h5,-⟩;have Hl:=h5.lt;have hW5:=zh h5;clear h5)
   | (go_at_call 60;refine(zdnZ hW5.o (by have:=Hg.o;simp;omega) true (fun h=>by cases h)).mono ?_;rintro e w6 ⟨rfl,Hj⟩))
  refine bodyPost_ret (results_tmp2 rfl _ _ _) rfl ?_
  exact⟨rfl,Hj⟩
end Go.Proofs.YtdncljdfmdgdaaaGreatDoor
namespace Go.Proofs.YtdncljdfmdgdaaaGreatDoor
open Go.RowKit Go.Shelf
theorem StrRow.nil (w:World) (A:Option Addr) (c:Nat):StrRow w (.slice A 0 c) []:=⟨A,c,rfl,fun i h=>by simp at h⟩
theorem BoolRow.nil (w:World) (A:Option Addr) (c:Nat):BoolRow w (.slice A 0 c) []:=⟨A,c,rfl,fun i h=>by simp at h⟩
theorem TyRow.nil (w:World) (A:Option Addr) (c:Nat):TyRow w (.slice A 0 c) []:=⟨A,c,rfl,Nat.zero_le _,by rw[IsTys];trivial⟩
theorem ExRow.nil (w:World) (A:Option Addr) (c:Nat):ExRow w (.slice A 0 c) []:=⟨A,c,rfl,Nat.zero_le _,by rw[IsExs];trivial⟩
theorem StRow.nil (w:World) (A:Option Addr) (c:Nat):StRow w (.slice A 0 c) []:=⟨A,c,rfl,Nat.zero_le _,by rw[IsSts];trivial⟩
theorem StrRow.new (w:World) (l:List Lx.Bytes):StrRow (w.alloc (.cells (strsV l).toArray 9)) (.slice (some ⟨w.heap.size,0,none⟩) l.length l.length) l:=
 ⟨_,_,rfl,fun i h=>⟨_,0,rfl,by rw[Nat.zero_add];exact(Row.new w l).at h⟩⟩
theorem BoolRow.new (w:World) (l:List Bool):BoolRow (w.alloc (.cells (l.map Value.bool).toArray 4)) (.slice (some ⟨w.heap.size,0,none⟩) l.length l.length) l:=
 ⟨_,_,rfl,fun i h=>⟨_,0,rfl,by rw[Nat.zero_add,zdZ (heap_alloc_new w _)];simp[h]⟩⟩
theorem IsTy.made {w:World} {k:Int} {nm:Lx.Bytes} {vn ve vp:Value} {ns:List Lx.Bytes} {es:List Bool} {ps:List Sx.Ty} (h1:StrRow w vn ns) (h2:BoolRow w ve es) (h3:TyRow w vp ps) :
  IsTy w (.agg #[.int .i64 k,.string ⟨nm.toArray⟩,vn,ve,vp]) (.mk k nm ns es ps):=by
 obtain⟨A,c,rfl,hc,hl⟩:=h3
 rw[IsTy]
 exact⟨vn,ve,A,c,rfl,h1,h2,hc,hl⟩
theorem TyRow.new1 {w:World} {v0 v1 v2 v3 v4:Value} {t:Sx.Ty} (h:IsTy w (.agg #[v0,v1,v2,v3,v4]) t) :
  TyRow (w.alloc (.cells #[v0,v1,v2,v3,v4] 26)) (.slice (some ⟨w.heap.size,0,none⟩) 1 1) [t]:=by
 have hb:=heap_alloc_new w (.cells #[v0,v1,v2,v3,v4] 26)
 refine⟨_,1,rfl,Nat.le_refl _,?_⟩
 rw[IsTys,IsTys]
 exact⟨⟨_,0,v0,v1,v2,v3,v4,rfl,zdZ hb 0,zdZ hb 1,zdZ hb 2,zdZ hb 3,zdZ hb 4,IsTy.below (zeZ (World.grownBy_alloc w _ none)) _ _ h⟩,trivial⟩
theorem TyRow.new2 {w:World} {v0 v1 v2 v3 v4 u0 u1 u2 u3 u4:Value} {t s:Sx.Ty} (h:IsTy w (.agg #[v0,v1,v2,v3,v4]) t) (h':IsTy w (.agg #[u0,u1,u2,u3,u4]) s) :
  TyRow (w.alloc (.cells #[v0,v1,v2,v3,v4,u0,u1,u2,u3,u4] 26)) (.slice (some ⟨w.heap.size,0,none⟩) 2 2) [t,s]:=by
 have hb:=heap_alloc_new w (.cells #[v0,v1,v2,v3,v4,u0,u1,u2,u3,u4] 26)
 refine⟨_,2,rfl,Nat.le_refl _,?_⟩
 rw[IsTys,IsTys,IsTys]
 exact⟨⟨_,0,v0,v1,v2,v3,v4,rfl,zdZ hb 0,zdZ hb 1,zdZ hb 2,zdZ hb 3,zdZ hb 4,IsTy.below (zeZ (World.grownBy_alloc w _ none)) _ _ h⟩,
  ⟨_,0,u0,u1,u2,u3,u4,rfl,zdZ hb 5,zdZ hb 6,zdZ hb 7,zdZ hb 8,zdZ hb 9,IsTy.below (zeZ (World.grownBy_alloc w _ none)) _ _ h'⟩,trivial⟩
theorem IsEx.made {w:World} {pos k n:Int} {s:Lx.Bytes} {vt vn vp:Value} {t:List Sx.Ty} {ns:List Lx.Bytes} {ps:List Sx.Ex} (h1:TyRow w vt t) (h2:StrRow w vn ns) (h3:ExRow w vp ps) (hn0:-9223372036854775808≤n) (hn1:n≤9223372036854775807) :
  IsEx w (.agg #[.int .i64 pos,.int .i64 k,.int .i64 n,.string ⟨s.toArray⟩,vt,vn,vp]) (.mk pos k n s t ns ps):=by
 obtain⟨A,c,rfl,hc,hl⟩:=h3
 rw[IsEx]
 exact⟨vt,vn,A,c,rfl,h1,h2,hc,hl,hn0,hn1⟩
theorem ExRow.new1 {w:World} {v0 v1 v2 v3 v4 v5 v6:Value} {t:Sx.Ex} (h:IsEx w (.agg #[v0,v1,v2,v3,v4,v5,v6]) t) :
  ExRow (w.alloc (.cells #[v0,v1,v2,v3,v4,v5,v6] 39)) (.slice (some ⟨w.heap.size,0,none⟩) 1 1) [t]:=by
 have hb:=heap_alloc_new w (.cells #[v0,v1,v2,v3,v4,v5,v6] 39)
 refine⟨_,1,rfl,Nat.le_refl _,?_⟩
 rw[IsExs,IsExs]
 exact⟨⟨_,0,v0,v1,v2,v3,v4,v5,v6,rfl,zdZ hb 0,zdZ hb 1,zdZ hb 2,zdZ hb 3,zdZ hb 4,zdZ hb 5,zdZ hb 6,IsEx.below (zeZ (World.grownBy_alloc w _ none)) _ _ h⟩,trivial⟩
theorem ExRow.new2 {w:World} {v0 v1 v2 v3 v4 v5 v6 u0 u1 u2 u3 u4 u5 u6:Value} {t s:Sx.Ex} (h:IsEx w (.agg #[v0,v1,v2,v3,v4,v5,v6]) t) (h':IsEx w (.agg #[u0,u1,u2,u3,u4,u5,u6]) s) :
  ExRow (w.alloc (.cells #[v0,v1,v2,v3,v4,v5,v6,u0,u1,u2,u3,u4,u5,u6] 39)) (.slice (some ⟨w.heap.size,0,none⟩) 2 2) [t,s]:=by
 have hb:=heap_alloc_new w (.cells #[v0,v1,v2,v3,v4,v5,v6,u0,u1,u2,u3,u4,u5,u6] 39)
 refine⟨_,2,rfl,Nat.le_refl _,?_⟩
 rw[IsExs,IsExs,IsExs]
 exact⟨⟨_,0,v0,v1,v2,v3,v4,v5,v6,rfl,zdZ hb 0,zdZ hb 1,zdZ hb 2,zdZ hb 3,zdZ hb 4,zdZ hb 5,zdZ hb 6,IsEx.below (zeZ (World.grownBy_alloc w _ none)) _ _ h⟩,
  ⟨_,0,u0,u1,u2,u3,u4,u5,u6,rfl,zdZ hb 7,zdZ hb 8,zdZ hb 9,zdZ hb 10,zdZ hb 11,zdZ hb 12,zdZ hb 13,IsEx.below (zeZ (World.grownBy_alloc w _ none)) _ _ h'⟩,trivial⟩
theorem lawTy (k:Int) (A:Option Addr) (n c:Nat) (w:World):Calls Tryz.prog 12 #[.int .i64 k,.slice A n c] w fun e w'=>e=.returned (.agg #[.int .i64 k,.string ⟨#[]⟩,.slice none 0 0,.slice none 0 0,.slice A n c])∧Below w.heap.size w w':=by
 go_enter Tryz.func12, Tryz.ntmps12
 go_wp2
 refine bodyPost_ret (v:=.agg #[.int .i64 k,.string ⟨#[]⟩,.slice none 0 0,.slice none 0 0,.slice A n c]) (by simp[results, Tryz.results12,go_sem]) rfl ⟨rfl,?_⟩
 exact(Below.refl _ _).alloc (Nat.le_refl _) _
theorem zgrZ (s:ByteArray) (w:World):Calls Tryz.prog 13 #[.string s] w fun e w'=>e=.returned (.agg #[.int .i64 4,.string s,.slice none 0 0,.slice none 0 0,.slice none 0 0])∧Below w.heap.size w w':=by
 go_enter Tryz.func13, Tryz.ntmps13
 go_wp2
 refine bodyPost_ret (v:=.agg #[.int .i64 4,.string s,.slice none 0 0,.slice none 0 0,.slice none 0 0]) (by simp[results, Tryz.results13,go_sem]) rfl ⟨rfl,?_⟩
 exact(Below.refl _ _).alloc (Nat.le_refl _) _
theorem zcaZ (n:Int) (w:World):Calls Tryz.prog 22 #[.int .i64 n] w fun e w'=>e=.returned (.agg #[.int .i64 0,.int .i64 1,.int .i64 n,.string ⟨#[]⟩,.slice none 0 0,.slice none 0 0,.slice none 0 0])∧Below w.heap.size w w':=by
 go_enter Tryz.func22, Tryz.ntmps22
 go_wp2
 refine bodyPost_ret (v:=.agg #[.int .i64 0,.int .i64 1,.int .i64 n,.string ⟨#[]⟩,.slice none 0 0,.slice none 0 0,.slice none 0 0]) (by simp[results, Tryz.results22,go_sem]) rfl ⟨rfl,?_⟩
 exact(Below.refl _ _).alloc (Nat.le_refl _) _
theorem zcyZ (s:ByteArray) (w:World):Calls Tryz.prog 19 #[.string s] w fun e w'=>e=.returned (.agg #[.int .i64 0,.int .i64 4,.int .i64 0,.string s,.slice none 0 0,.slice none 0 0,.slice none 0 0])∧Below w.heap.size w w':=by
 go_enter Tryz.func19, Tryz.ntmps19
 go_wp2
 refine bodyPost_ret (v:=.agg #[.int .i64 0,.int .i64 4,.int .i64 0,.string s,.slice none 0 0,.slice none 0 0,.slice none 0 0]) (by simp[results, Tryz.results19,go_sem]) rfl ⟨rfl,?_⟩
 exact(Below.refl _ _).alloc (Nat.le_refl _) _
end Go.Proofs.YtdncljdfmdgdaaaGreatDoor
