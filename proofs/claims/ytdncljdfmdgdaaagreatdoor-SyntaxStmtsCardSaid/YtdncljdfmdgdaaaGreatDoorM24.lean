/-
  The walk of expr: a call, an application; all kinds.
-/
import Derived.Test.YtdncljdfmdgdaaaGreatDoorM23
set_option linter.unusedSimpArgs false
set_option linter.unusedVariables false
set_option maxRecDepth 100000
set_option maxHeartbeats 8000000
namespace Go.Proofs.YtdncljdfmdgdaaaGreatDoor
open Go.RowKit Go.Shelf Go.WideMaps
theorem Sx.sizeXs_tail (l:List Sx.Ex):Sx.sizeXs l.tail<=Sx.sizeXs l:=by
 cases l with
 | nil=>exact ybZ _
 | cons x l=>rw[List.tail_cons,Sx.sizeXs];omega
theorem zqhZ {W0:World} {b:Nat} {x:Sx.Ex} (ih:∀p∈x.parts,ExprOk W0 b p) (hG:GS W0) (hN:NG<=W0.heap.size) (hkd:x.kind=10):ExprOk W0 b x:=by
 intro v l w hr ht hz h hc;obtain⟨hsh,hrp⟩:=hr.shape;have Hp:=Sx.sizeX_parts x;have Ho:=Sx.textX_len x;rw[Sx.expr_eq,hkd]at hc ⊢;rw[hkd]at hsh;simp only[Int.reduceEq,ycbZ,yXZ,yjbZ,ylbZ,or_true,true_or,reduceIte,Nat.reduceEqDiff]at hc ⊢;simp[Sx.shapeX]at hsh;have H9:=hsh.1;have Hn:1<=x.parts.length:=by have:=hsh;omega
 have H6:0<x.parts.length:=by omega
 obtain⟨At,ct,An,cn,Ap,cp,rfl,htt,hnn,hp,hn0,hn1⟩:=ht.agg;rw[hkd];obtain⟨g0,off0,At0,ct0,An0,cn0,Ap0,cp0,hA0,hty0,hc0⟩:=hp.spot 0 H6;obtain⟨p0,hpe0⟩:=zE (x.parts[0]'H6);have H0:p0∈x.parts:=by rw[<-hpe0];exact yfZ H6
 rw[hpe0]at hc0 hty0;have Hg:Sx.sizeX p0<=1000000:=by have:=Sx.sizeX_mem H0;omega
 have Hj:(0:Int)<(x.parts.length:Int):=by omega
 rw[yrZ,ypZ]at hc0;have Hb:=zh hc0;have He:=zh hty0;clear hc0 hty0;subst hA0;obtain⟨V,hV⟩:=zE (sliced (some ⟨g0,off0,none⟩) 1 x.parts.length cp 7);have Hs:∀w,(Instr.slice 37 (.slice (some ⟨g0,off0,none⟩) x.parts.length cp) (some (.int .i64 1)) none none).run Tryz.prog w=.ok V w:=fun w=>by rw[zfdZ _ _ _ _ (by omega),hV]
 have Hf:=hp.tail H6;rw[hV]at Hf;have H8:=znjZ (b:=b) (xs:=x.parts.tail) (fun p hm=>ih p (List.mem_of_mem_tail hm));have Ha:Sx.sizeXs x.parts.tail<=1000000:=by have:=Sx.sizeXs_tail x.parts;omega
 obtain⟨qa,hqa⟩:=zE (Sx.listed x.parts.tail);have H7:=Sx.args_tail H6;rw[hqa]at H7;have H1:=Sx.first_head 7 H6;rw[hpe0]at H1;obtain⟨q0,hq0⟩:=zE (Sx.part 7 p0);rw[hq0]at H1;rw[H1,H7]at hc ⊢;have Hc:l.length+(q0.length+2+qa.length)<=900000000:=by simp at hc;omega
 have Hl:x.s≠[]/\x.s.length<=1000000000:=⟨NM.ok.small _ H9,by omega⟩
 have HA:=zh (show ∀u w,IsEx W0 u p0->Wrote W0 b (l).length (l) w->Calls Tryz.prog 116 #[.pointer (some ⟨b,0,none⟩),u,.int .i64 (7)] w fun e w'=>e=.returned (.tuple #[])/\Wrote W0 b (l++q0).length (l++q0) w'/\KeepW w w' from fun u w hu hw=>by
  have:=zbyZ (ih p0 H0) (7) (by omega) (hrp p0 H0).kind.1 (hrp p0 H0).kind.2 u (l) w (hrp p0 H0) hu Hg hw (by rw[hq0];(try simp);omega);rw[hq0]at this
  exact this)
 have Hq:=zh (show ∀w,Wrote W0 b (l++q0++[[46],x.s]).length (l++q0++[[46],x.s]) w->Calls Tryz.prog 117 #[.pointer (some ⟨b,0,none⟩),V] w fun e w'=>e=.returned (.tuple #[])/\Wrote W0 b (l++q0++[[46],x.s]++qa).length (l++q0++[[46],x.s]++qa) w'/\KeepW w w' from fun w hw=>by
  have:=H8 V (l++q0++[[46],x.s]) w (fun p hm=>hrp p (List.mem_of_mem_tail hm)) Hf Ha hw (by rw[hqa];(try simp);omega);rw[hqa]at this
  exact this)
 have hb:(l++q0).length+2<=1000000000:=by simp;omega
 have Hr:=zh Hl;have Ht:(1:Int)<=(x.parts.length:Int):=by omega
 obtain⟨L,hL⟩:=zE (w.heap.size);obtain⟨w2,hw2⟩:=zE (w.alloc (.cells #[.int .i64 x.pos,.int .i64 10,.int .i64 x.n,.string ⟨x.s.toArray⟩,.slice At x.t.length ct,.slice An x.names.length cn,.slice (some ⟨g0,off0,none⟩) x.parts.length cp] 39));have Hd:=Live.first h #[.int .i64 x.pos,.int .i64 10,.int .i64 x.n,.string ⟨x.s.toArray⟩,.slice At x.t.length ct,.slice An x.names.length cn,.slice (some ⟨g0,off0,none⟩) x.parts.length cp] 39 hw2;rw[hL]at Hd;have H2:=zh Hd;clear Hd h;clear hr ht hz hc hsh hrp Hp Ho htt hnn hp hn0 hn1 hkd ih hG hN hpe0 H0 Hg H6 H9 Hn Hl Hc hq0 H1 hqa H7 Ha H8 Hf hV;go_enter Tryz.func64, Tryz.ntmps64;obtain⟨x0,x1,x2,x3,x4,x5,x6,hl1,hl2,hbl⟩:=H2.o.c7;obtain⟨dg,d0,d1,d2,d3,d4,d5,d6⟩:=Hb.o w2 H2.o.wr.below;go_upto_region 24 with(go_at_call 116;refine(HA.o _ w2 He.o H2.o.wr).mono ?_;rintro e w3 ⟨rfl,hW3,Hk⟩);have H3:=zh (H2.o.go oEx oEx hW3 Hk);clear hW3 Hk;clear x0 x1 x2 x3 x4 x5 x6 hl1 hl2 hbl d0 d1 d2 d3 d4 d5 d6 dg;obtain⟨x0,x1,x2,x3,x4,x5,x6,hl1,hl2,hbl⟩:=H3.o.c7;obtain⟨dg,d0,d1,d2,d3,d4,d5,d6⟩:=Hb.o w3 H3.o.wr.below;go_upto_region 24 with fail;have Hm:=zh H3.o.drew
 go_region_with (go_at_call 100;refine(Hm.o.lput2 [46] x.s ⟨by simp,by simp⟩ Hr.o hb).mono ?_;rintro e w4 ⟨rfl,hW4,Hh⟩)
 have H4:=zh (Hm.o.go oEx oEx hW4 Hh);clear hW4 Hh;clear x0 x1 x2 x3 x4 x5 x6 hl1 hl2 hbl d0 d1 d2 d3 d4 d5 d6 dg;obtain⟨x0,x1,x2,x3,x4,x5,x6,hl1,hl2,hbl⟩:=H4.o.c7;obtain⟨dg,d0,d1,d2,d3,d4,d5,d6⟩:=Hb.o w4 H4.o.wr.below;go_wp2_with (go_at_call 117;refine(Hq.o w4 H4.o.wr).mono ?_;rintro e w5 ⟨rfl,hW5,Hi⟩);have H5:=zh (H4.o.go oEx oEx hW5 Hi);clear hW5 Hi;clear x0 x1 x2 x3 x4 x5 x6 hl1 hl2 hbl d0 d1 d2 d3 d4 d5 d6 dg;go_end0;refine⟨rfl,?_,H5.o.kp⟩;have h9:=H5.o.wr;simpa[yiZ]using h9
theorem zqiZ {W0:World} {b:Nat} {x:Sx.Ex} (ih:∀p∈x.parts,ExprOk W0 b p) (hG:GS W0) (hN:NG<=W0.heap.size) (hkd:x.kind=11):ExprOk W0 b x:=by
 intro v l w hr ht hz h hc;obtain⟨hsh,hrp⟩:=hr.shape;have Hl:=Sx.sizeX_parts x;have Hk:=Sx.textX_len x;rw[Sx.expr_eq,hkd]at hc ⊢;rw[hkd]at hsh;simp only[Int.reduceEq,ycbZ,yXZ,yjbZ,ylbZ,or_true,true_or,reduceIte,Nat.reduceEqDiff]at hc ⊢;simp[Sx.shapeX]at hsh;have Hi:1<=x.parts.length:=by have:=hsh;omega
 have H5:0<x.parts.length:=by omega
 obtain⟨At,ct,An,cn,Ap,cp,rfl,htt,hnn,hp,hn0,hn1⟩:=ht.agg;rw[hkd];obtain⟨g0,off0,At0,ct0,An0,cn0,Ap0,cp0,hA0,hty0,hc0⟩:=hp.spot 0 H5;obtain⟨p0,hpe0⟩:=zE (x.parts[0]'H5);have H0:p0∈x.parts:=by rw[<-hpe0];exact yfZ H5
 rw[hpe0]at hc0 hty0;have Hg:Sx.sizeX p0<=1000000:=by have:=Sx.sizeX_mem H0;omega
 have Hj:(0:Int)<(x.parts.length:Int):=by omega
 rw[yrZ,ypZ]at hc0;have Hc:=zh hc0;have H8:=zh hty0;clear hc0 hty0;subst hA0;obtain⟨V,hV⟩:=zE (sliced (some ⟨g0,off0,none⟩) 1 x.parts.length cp 7);have Hm:∀w,(Instr.slice 37 (.slice (some ⟨g0,off0,none⟩) x.parts.length cp) (some (.int .i64 1)) none none).run Tryz.prog w=.ok V w:=fun w=>by rw[zfdZ _ _ _ _ (by omega),hV]
 have Hf:=hp.tail H5;rw[hV]at Hf;have H7:=znjZ (b:=b) (xs:=x.parts.tail) (fun p hm=>ih p (List.mem_of_mem_tail hm));have H9:Sx.sizeXs x.parts.tail<=1000000:=by have:=Sx.sizeXs_tail x.parts;omega
 obtain⟨qa,hqa⟩:=zE (Sx.listed x.parts.tail);have H6:=Sx.args_tail H5;rw[hqa]at H6;have H1:=Sx.applied_head H5;rw[hpe0]at H1;rw[H6]at hc ⊢;obtain⟨kd0,hkd0⟩:=zE (p0.kind);rw[hkd0]at H1;have Hn:(1:Int)<=(x.parts.length:Int):=by omega
 by_cases h9:kd0=9
 ·have b9:(kd0==9)=true:=(by rw[ytZ];exact h9);rw[if_pos h9]at H1;obtain⟨q0,hq0⟩:=zE (Sx.within p0);rw[hq0]at H1;rw[H1]at hc ⊢;have Ha:l.length+(q0.length+qa.length)<=900000000:=by simp at hc;omega
  have HA:=zh (show ∀u w,IsEx W0 u p0->Wrote W0 b l.length l w->Calls Tryz.prog 118 #[.pointer (some ⟨b,0,none⟩),u] w fun e w'=>e=.returned (.tuple #[])/\Wrote W0 b (l++q0).length (l++q0) w'/\KeepW w w' from fun u w hu hw=>by
   have:=zjtZ (ih p0 H0) u l w (hrp p0 H0) hu Hg hw (by rw[hq0];omega);rw[hq0]at this
   exact this)
  have Hh:=zh (show ∀w,Wrote W0 b (l++q0).length (l++q0) w->Calls Tryz.prog 117 #[.pointer (some ⟨b,0,none⟩),V] w fun e w'=>e=.returned (.tuple #[])/\Wrote W0 b (l++q0++qa).length (l++q0++qa) w'/\KeepW w w' from fun w hw=>by
   have:=H7 V (l++q0) w (fun p hm=>hrp p (List.mem_of_mem_tail hm)) Hf H9 hw (by rw[hqa];(try simp);omega);rw[hqa]at this
   exact this)
  rw[hkd0]at Hc H8;obtain⟨L,hL⟩:=zE (w.heap.size);obtain⟨w2,hw2⟩:=zE (w.alloc (.cells #[.int .i64 x.pos,.int .i64 11,.int .i64 x.n,.string ⟨x.s.toArray⟩,.slice At x.t.length ct,.slice An x.names.length cn,.slice (some ⟨g0,off0,none⟩) x.parts.length cp] 39));have Hb:=Live.first h #[.int .i64 x.pos,.int .i64 11,.int .i64 x.n,.string ⟨x.s.toArray⟩,.slice At x.t.length ct,.slice An x.names.length cn,.slice (some ⟨g0,off0,none⟩) x.parts.length cp] 39 hw2;rw[hL]at Hb;have H2:=zh Hb;clear Hb h;clear hr ht hz hc hsh hrp Hl Hk htt hnn hp hn0 hn1 hkd ih hG hN hpe0 H0 Hg H5 Hi Ha hq0 H1 hqa H6 H9 H7 Hf hV hkd0 h9;go_enter Tryz.func64, Tryz.ntmps64;obtain⟨x0,x1,x2,x3,x4,x5,x6,hl1,hl2,hbl⟩:=H2.o.c7;obtain⟨dg,d0,d1,d2,d3,d4,d5,d6⟩:=Hc.o w2 H2.o.wr.below;go_upto_region 30 with(go_at_call 118;refine(HA.o _ w2 H8.o H2.o.wr).mono ?_;rintro e w3 ⟨rfl,hW3,He⟩);have H3:=zh (H2.o.go oEx oEx hW3 He);clear hW3 He;clear x0 x1 x2 x3 x4 x5 x6 hl1 hl2 hbl d0 d1 d2 d3 d4 d5 d6 dg;obtain⟨x0,x1,x2,x3,x4,x5,x6,hl1,hl2,hbl⟩:=H3.o.c7;obtain⟨dg,d0,d1,d2,d3,d4,d5,d6⟩:=Hc.o w3 H3.o.wr.below;go_wp2_with (go_at_call 117;refine(Hh.o w3 H3.o.wr).mono ?_;rintro e w4 ⟨rfl,hW4,Hd⟩);have H4:=zh (H3.o.go oEx oEx hW4 Hd);clear hW4 Hd;clear x0 x1 x2 x3 x4 x5 x6 hl1 hl2 hbl d0 d1 d2 d3 d4 d5 d6 dg;go_end0;refine⟨rfl,?_,H4.o.kp⟩;have h9:=H4.o.wr;simpa[yiZ]using h9
 ·have b9:(kd0==9)=false:=(by rw[yaZ];exact h9);rw[if_neg h9]at H1;obtain⟨q0,hq0⟩:=zE (Sx.part 7 p0);rw[hq0]at H1;rw[H1]at hc ⊢;have Ha:l.length+(q0.length+qa.length)<=900000000:=by simp at hc;omega
  have HA:=zh (show ∀u w,IsEx W0 u p0->Wrote W0 b (l).length (l) w->Calls Tryz.prog 116 #[.pointer (some ⟨b,0,none⟩),u,.int .i64 (7)] w fun e w'=>e=.returned (.tuple #[])/\Wrote W0 b (l++q0).length (l++q0) w'/\KeepW w w' from fun u w hu hw=>by
   have:=zbyZ (ih p0 H0) (7) (by omega) (hrp p0 H0).kind.1 (hrp p0 H0).kind.2 u (l) w (hrp p0 H0) hu Hg hw (by rw[hq0];(try simp);omega);rw[hq0]at this
   exact this)
  have Hh:=zh (show ∀w,Wrote W0 b (l++q0).length (l++q0) w->Calls Tryz.prog 117 #[.pointer (some ⟨b,0,none⟩),V] w fun e w'=>e=.returned (.tuple #[])/\Wrote W0 b (l++q0++qa).length (l++q0++qa) w'/\KeepW w w' from fun w hw=>by
   have:=H7 V (l++q0) w (fun p hm=>hrp p (List.mem_of_mem_tail hm)) Hf H9 hw (by rw[hqa];(try simp);omega);rw[hqa]at this
   exact this)
  rw[hkd0]at Hc H8;obtain⟨L,hL⟩:=zE (w.heap.size);obtain⟨w2,hw2⟩:=zE (w.alloc (.cells #[.int .i64 x.pos,.int .i64 11,.int .i64 x.n,.string ⟨x.s.toArray⟩,.slice At x.t.length ct,.slice An x.names.length cn,.slice (some ⟨g0,off0,none⟩) x.parts.length cp] 39));have Hb:=Live.first h #[.int .i64 x.pos,.int .i64 11,.int .i64 x.n,.string ⟨x.s.toArray⟩,.slice At x.t.length ct,.slice An x.names.length cn,.slice (some ⟨g0,off0,none⟩) x.parts.length cp] 39 hw2;rw[hL]at Hb;have H2:=zh Hb;clear Hb h;clear hr ht hz hc hsh hrp Hl Hk htt hnn hp hn0 hn1 hkd ih hG hN hpe0 H0 Hg H5 Hi Ha hq0 H1 hqa H6 H9 H7 Hf hV hkd0 h9;go_enter Tryz.func64, Tryz.ntmps64;obtain⟨x0,x1,x2,x3,x4,x5,x6,hl1,hl2,hbl⟩:=H2.o.c7;obtain⟨dg,d0,d1,d2,d3,d4,d5,d6⟩:=Hc.o w2 H2.o.wr.below;go_upto_region 30 with(go_at_call 116;refine(HA.o _ w2 H8.o H2.o.wr).mono ?_;rintro e w3 ⟨rfl,hW3,He⟩);have H3:=zh (H2.o.go oEx oEx hW3 He);clear hW3 He;clear x0 x1 x2 x3 x4 x5 x6 hl1 hl2 hbl d0 d1 d2 d3 d4 d5 d6 dg;obtain⟨x0,x1,x2,x3,x4,x5,x6,hl1,hl2,hbl⟩:=H3.o.c7;obtain⟨dg,d0,d1,d2,d3,d4,d5,d6⟩:=Hc.o w3 H3.o.wr.below;go_wp2_with (go_at_call 117;refine(Hh.o w3 H3.o.wr).mono ?_;rintro e w4 ⟨rfl,hW4,Hd⟩);have H4:=zh (H3.o.go oEx oEx hW4 Hd);clear hW4 Hd;clear x0 x1 x2 x3 x4 x5 x6 hl1 hl2 hbl d0 d1 d2 d3 d4 d5 d6 dg;go_end0;refine⟨rfl,?_,H4.o.kp⟩;have h9:=H4.o.wr;simpa[yiZ]using h9
theorem zimZ {W0:World} {b:Nat} (hG:GS W0) (hN:NG<=W0.heap.size):∀(n:Nat) (x:Sx.Ex),Sx.sizeX x<=n->ExprOk W0 b x:=by
 intro n
 induction n with
 | zero=>intro x h;have:=Sx.sizeX_pos x;omega
 | succ n ihn=>
  intro x hx
  have ih:∀p∈x.parts,ExprOk W0 b p:=fun p hp=>ihn p (by
   have:=Sx.sizeX_mem hp;have:=Sx.sizeX_parts x
   omega)
  intro v l w hr ht hz h hc;have hk:=hr.kind;have:x.kind=1\/x.kind=2\/x.kind=3\/x.kind=4\/x.kind=5\/x.kind=6\/x.kind=7\/x.kind=8\/x.kind=9\/x.kind=10\/x.kind=11\/x.kind=12\/x.kind=13\/x.kind=14\/15<=x.kind:=(by omega);rcases this with h1 | h1 | h1 | h1 | h1 | h1 | h1 | h1 | h1 | h1 | h1 | h1 | h1 | h1 | h1
  ·exact zsyZ ih hG hN h1 v l w hr ht hz h hc
  ·exact zszZ ih hG hN h1 v l w hr ht hz h hc
  ·exact ztaZ ih hG hN h1 v l w hr ht hz h hc
  ·exact zsxZ ih hG hN h1 v l w hr ht hz h hc
  ·exact zswZ ih hG hN h1 v l w hr ht hz h hc
  ·exact ztbZ ih hG hN h1 v l w hr ht hz h hc
  ·exact ztcZ ih hG hN h1 v l w hr ht hz h hc
  ·exact ztdZ ih hG hN h1 v l w hr ht hz h hc
  ·exact zteZ ih hG hN h1 v l w hr ht hz h hc
  ·exact zqhZ ih hG hN h1 v l w hr ht hz h hc
  ·exact zqiZ ih hG hN h1 v l w hr ht hz h hc
  ·exact zqdZ ih hG hN h1 v l w hr ht hz h hc
  ·exact zqeZ ih hG hN h1 v l w hr ht hz h hc
  ·exact zqfZ ih hG hN h1 v l w hr ht hz h hc
  ·exact zqgZ ih h1 v l w hr ht hz h hc
theorem znlZ (t:Sx.Ex) (v:Value) (W:World) (hG:GS W) (hN:NG<=W.heap.size) (ht:IsEx W v t) (hsz:Sx.sizeX t<=1000000) (hlen:(Sx.expr SY t).length<=900000000) :
  Calls Tryz.prog 23 #[v] W fun e W'=>e=.returned (.tuple #[.string ⟨(Sx.said (Sx.rightX NM 64 t) (Sx.expr SY t)).1.toArray⟩,.int .i64 ((Sx.said (Sx.rightX NM 64 t) (Sx.expr SY t)).2:Nat)])/\Below W.heap.size W W':=by
 have Hc:∀X,Below W.heap.size W X->Calls Tryz.prog 63 #[v,.int .i64 64] X fun e W'=>e=.returned (.bool (Sx.rightX NM 64 t))/\Below X.heap.size X W':=fun X hb=>zdxZ _ t (ybZ _) 64 (by omega) v X (hG.below hb) (ymZ hN hb.size) (IsEx.below hb t v ht) hsz;have H7:=fun b w (hr:Sx.rightX NM 64 t=true) (h:Wrote W b 0 [] w)=>zimZ (b:=b) hG hN _ t (ybZ _) v [] w ⟨64,hr⟩ ht hsz h (by simpa using hlen);obtain⟨At,ct,An,cn,Ap,cp,rfl,-⟩:=ht.agg;obtain⟨L,hL⟩:=zE (W.heap.size);obtain⟨w2,hw2⟩:=zE (W.alloc (.cells #[.int .i64 t.pos,.int .i64 t.kind,.int .i64 t.n,.string ⟨t.s.toArray⟩,.slice At t.t.length ct,.slice An t.names.length cn,.slice Ap t.parts.length cp] 39));have H5:w2.heap[L]? =some (.cells #[.int .i64 t.pos,.int .i64 t.kind,.int .i64 t.n,.string ⟨t.s.toArray⟩,.slice At t.t.length ct,.slice An t.names.length cn,.slice Ap t.parts.length cp] 39 (0,0)):=by rw[<-hw2,<-hL];exact ydZ W _
 have Ha:Below W.heap.size W w2:=by rw[<-hw2];exact zeZ (yeZ W _ none)
 obtain⟨K,hK⟩:=zE (w2.heap.size);have hLK:L<=K/\L<K:=by rw[<-hK,<-hw2,<-hL];simp
 obtain⟨w3,hw3⟩:=zE (w2.alloc (.cells #[.pointer none,.slice none 0 0,.int .i64 0] 104));have H1:w3.heap[K]? =some (.cells #[.pointer none,.slice none 0 0,.int .i64 0] 104 (0,0)):=by rw[<-hw3,<-hK];exact ydZ w2 _
 have H9:Below w2.heap.size w2 w3:=by rw[<-hw3];exact zeZ (yeZ w2 _ none)
 have H4:Below W.heap.size W w3:=Ha.trans (H9.mono Ha.size);have H0:=(H9.block L (by omega)).trans H5;have Hd:K<w3.heap.size:=zaZ H1;obtain⟨x0,x1,x2,x3,x4,x5,x6⟩:=zbZ H0;have Hj:=zaZ H0
 have Hf:=zh (show ∀w4,Below w3.heap.size w3 w4->Wrote W K 0 [] w4/\K<w4.heap.size/\w4.heap[L]? =w3.heap[L]? from fun w4 H2=>
  ⟨Wrote.fresh (by omega) ((H2.block K Hd).trans H1) (H4.trans (H2.mono H4.size)),yJZ Hd H2.size,H2.block L Hj⟩)
 have H8:=zh (Hc w3 H4);have Hb:=zh H7;have H6:=zh H0;have Hh:=zh hlen;clear hLK Hc H7 ht hlen H5 Ha H9 H4 H0 H1 hG hsz
 cases hr:Sx.rightX NM 64 t with
 | false=>
  rw[hr]at H8;have HR:=zh hr;clear hr;go_enter Tryz.func23, Tryz.ntmps23
  go_wp2_with (first
   | (go_at_call 63;refine H8.o.mono ?_;rintro e w4 ⟨rfl,H2⟩;obtain⟨hW,hl4,-⟩:=Hf.o w4 H2;have hW4:=zh hW;clear H2 hW)
   | (go_at_call 60;refine(zdtZ hW4.o (by omega) false (fun _=>rfl)).mono ?_;rintro e w5 ⟨rfl,Hi⟩))
  refine ylZ (yDZ rfl _ _ _) rfl ?_;exact⟨rfl,Hi⟩
 | true=>
  rw[hr]at H8;have HR:=zh hr;clear hr;go_enter Tryz.func23, Tryz.ntmps23
  go_wp2_with (first
   | (go_at_call 63;refine H8.o.mono ?_;rintro e w4 ⟨rfl,H2⟩;obtain⟨hW,hl4,hbl4⟩:=Hf.o w4 H2;have hW4:=zh hW;have H3:=hbl4.trans H6.o;clear H2 hW hbl4 x0 x1 x2 x3 x4 x5 x6;obtain⟨x0,x1,x2,x3,x4,x5,x6⟩:=zbZ H3;clear H3)
   | (go_at_call 64;refine(Hb.o (K) w4 HR.o hW4.o).mono ?_;rintro e w5 ⟨rfl,h5,-⟩;have Hk:=h5.lt;have hW5:=zh h5;clear h5)
   | (go_at_call 60;refine(zdtZ hW5.o (by have:=Hh.o;simp;omega) true (fun h=>by cases h)).mono ?_;rintro e w6 ⟨rfl,Hg⟩))
  refine ylZ (yDZ rfl _ _ _) rfl ?_;exact⟨rfl,Hg⟩
end Go.Proofs.YtdncljdfmdgdaaaGreatDoor
namespace Go.Proofs.YtdncljdfmdgdaaaGreatDoor
open Go.RowKit Go.Shelf
theorem StrRow.nil (w:World) (A:Option Addr) (c:Nat):StrRow w (.slice A 0 c) []:=⟨A,c,rfl,fun i h=>by simp at h⟩
theorem BoolRow.nil (w:World) (A:Option Addr) (c:Nat):BoolRow w (.slice A 0 c) []:=⟨A,c,rfl,fun i h=>by simp at h⟩
theorem TyRow.nil (w:World) (A:Option Addr) (c:Nat):TyRow w (.slice A 0 c) []:=⟨A,c,rfl,yxZ _,by rw[IsTys];trivial⟩
theorem ExRow.nil (w:World) (A:Option Addr) (c:Nat):ExRow w (.slice A 0 c) []:=⟨A,c,rfl,yxZ _,by rw[IsExs];trivial⟩
theorem StRow.nil (w:World) (A:Option Addr) (c:Nat):StRow w (.slice A 0 c) []:=⟨A,c,rfl,yxZ _,by rw[IsSts];trivial⟩
theorem StrRow.new (w:World) (l:List Lx.Bytes):StrRow (w.alloc (.cells (strsV l).toArray 9)) (.slice (some ⟨w.heap.size,0,none⟩) l.length l.length) l:=
 ⟨_,_,rfl,fun i h=>⟨_,0,rfl,by rw[yGZ];exact(Row.new w l).at h⟩⟩
theorem BoolRow.new (w:World) (l:List Bool):BoolRow (w.alloc (.cells (l.map Value.bool).toArray 4)) (.slice (some ⟨w.heap.size,0,none⟩) l.length l.length) l:=
 ⟨_,_,rfl,fun i h=>⟨_,0,rfl,by rw[yGZ,zdZ (ydZ w _)];simp[h]⟩⟩
theorem IsTy.made {w:World} {k:Int} {nm:Lx.Bytes} {vn ve vp:Value} {ns:List Lx.Bytes} {es:List Bool} {ps:List Sx.Ty} (h1:StrRow w vn ns) (h2:BoolRow w ve es) (h3:TyRow w vp ps) :
  IsTy w (.agg #[.int .i64 k,.string ⟨nm.toArray⟩,vn,ve,vp]) (.mk k nm ns es ps):=by
 obtain⟨A,c,rfl,hc,hl⟩:=h3;rw[IsTy];exact⟨vn,ve,A,c,rfl,h1,h2,hc,hl⟩
theorem TyRow.new1 {w:World} {v0 v1 v2 v3 v4:Value} {t:Sx.Ty} (h:IsTy w (.agg #[v0,v1,v2,v3,v4]) t) :
  TyRow (w.alloc (.cells #[v0,v1,v2,v3,v4] 26)) (.slice (some ⟨w.heap.size,0,none⟩) 1 1) [t]:=by
 have hb:=ydZ w (.cells #[v0,v1,v2,v3,v4] 26);refine⟨_,1,rfl,ybZ _,?_⟩;rw[IsTys,IsTys];exact⟨⟨_,0,v0,v1,v2,v3,v4,rfl,zdZ hb 0,zdZ hb 1,zdZ hb 2,zdZ hb 3,zdZ hb 4,IsTy.below (zeZ (yeZ w _ none)) _ _ h⟩,trivial⟩
theorem TyRow.new2 {w:World} {v0 v1 v2 v3 v4 u0 u1 u2 u3 u4:Value} {t s:Sx.Ty} (h:IsTy w (.agg #[v0,v1,v2,v3,v4]) t) (h':IsTy w (.agg #[u0,u1,u2,u3,u4]) s) :
  TyRow (w.alloc (.cells #[v0,v1,v2,v3,v4,u0,u1,u2,u3,u4] 26)) (.slice (some ⟨w.heap.size,0,none⟩) 2 2) [t,s]:=by
 have hb:=ydZ w (.cells #[v0,v1,v2,v3,v4,u0,u1,u2,u3,u4] 26);refine⟨_,2,rfl,ybZ _,?_⟩;rw[IsTys,IsTys,IsTys]
 exact⟨⟨_,0,v0,v1,v2,v3,v4,rfl,zdZ hb 0,zdZ hb 1,zdZ hb 2,zdZ hb 3,zdZ hb 4,IsTy.below (zeZ (yeZ w _ none)) _ _ h⟩,
  ⟨_,0,u0,u1,u2,u3,u4,rfl,zdZ hb 5,zdZ hb 6,zdZ hb 7,zdZ hb 8,zdZ hb 9,IsTy.below (zeZ (yeZ w _ none)) _ _ h'⟩,trivial⟩
theorem IsEx.made {w:World} {pos k n:Int} {s:Lx.Bytes} {vt vn vp:Value} {t:List Sx.Ty} {ns:List Lx.Bytes} {ps:List Sx.Ex} (h1:TyRow w vt t) (h2:StrRow w vn ns) (h3:ExRow w vp ps) (hn0:-9223372036854775808<=n) (hn1:n<=9223372036854775807) :
  IsEx w (.agg #[.int .i64 pos,.int .i64 k,.int .i64 n,.string ⟨s.toArray⟩,vt,vn,vp]) (.mk pos k n s t ns ps):=by
 obtain⟨A,c,rfl,hc,hl⟩:=h3;rw[IsEx];exact⟨vt,vn,A,c,rfl,h1,h2,hc,hl,hn0,hn1⟩
theorem ExRow.new1 {w:World} {v0 v1 v2 v3 v4 v5 v6:Value} {t:Sx.Ex} (h:IsEx w (.agg #[v0,v1,v2,v3,v4,v5,v6]) t) :
  ExRow (w.alloc (.cells #[v0,v1,v2,v3,v4,v5,v6] 39)) (.slice (some ⟨w.heap.size,0,none⟩) 1 1) [t]:=by
 have hb:=ydZ w (.cells #[v0,v1,v2,v3,v4,v5,v6] 39);refine⟨_,1,rfl,ybZ _,?_⟩;rw[IsExs,IsExs];exact⟨⟨_,0,v0,v1,v2,v3,v4,v5,v6,rfl,zdZ hb 0,zdZ hb 1,zdZ hb 2,zdZ hb 3,zdZ hb 4,zdZ hb 5,zdZ hb 6,IsEx.below (zeZ (yeZ w _ none)) _ _ h⟩,trivial⟩
theorem ExRow.new2 {w:World} {v0 v1 v2 v3 v4 v5 v6 u0 u1 u2 u3 u4 u5 u6:Value} {t s:Sx.Ex} (h:IsEx w (.agg #[v0,v1,v2,v3,v4,v5,v6]) t) (h':IsEx w (.agg #[u0,u1,u2,u3,u4,u5,u6]) s) :
  ExRow (w.alloc (.cells #[v0,v1,v2,v3,v4,v5,v6,u0,u1,u2,u3,u4,u5,u6] 39)) (.slice (some ⟨w.heap.size,0,none⟩) 2 2) [t,s]:=by
 have hb:=ydZ w (.cells #[v0,v1,v2,v3,v4,v5,v6,u0,u1,u2,u3,u4,u5,u6] 39);refine⟨_,2,rfl,ybZ _,?_⟩;rw[IsExs,IsExs,IsExs]
 exact⟨⟨_,0,v0,v1,v2,v3,v4,v5,v6,rfl,zdZ hb 0,zdZ hb 1,zdZ hb 2,zdZ hb 3,zdZ hb 4,zdZ hb 5,zdZ hb 6,IsEx.below (zeZ (yeZ w _ none)) _ _ h⟩,
  ⟨_,0,u0,u1,u2,u3,u4,u5,u6,rfl,zdZ hb 7,zdZ hb 8,zdZ hb 9,zdZ hb 10,zdZ hb 11,zdZ hb 12,zdZ hb 13,IsEx.below (zeZ (yeZ w _ none)) _ _ h'⟩,trivial⟩
theorem lawTy (k:Int) (A:Option Addr) (n c:Nat) (w:World):Calls Tryz.prog 12 #[.int .i64 k,.slice A n c] w fun e w'=>e=.returned (.agg #[.int .i64 k,.string ⟨#[]⟩,.slice none 0 0,.slice none 0 0,.slice A n c])/\Below w.heap.size w w':=by
 go_enter Tryz.func12, Tryz.ntmps12
 go_wp2
 refine ylZ (v:=.agg #[.int .i64 k,.string ⟨#[]⟩,.slice none 0 0,.slice none 0 0,.slice A n c]) (by simp[results, Tryz.results12,go_sem]) rfl ⟨rfl,?_⟩;exact(yqZ _ _).alloc (ybZ _) _
theorem zhpZ (s:ByteArray) (w:World):Calls Tryz.prog 13 #[.string s] w fun e w'=>e=.returned (.agg #[.int .i64 4,.string s,.slice none 0 0,.slice none 0 0,.slice none 0 0])/\Below w.heap.size w w':=by
 go_enter Tryz.func13, Tryz.ntmps13
 go_wp2
 refine ylZ (v:=.agg #[.int .i64 4,.string s,.slice none 0 0,.slice none 0 0,.slice none 0 0]) (by simp[results, Tryz.results13,go_sem]) rfl ⟨rfl,?_⟩;exact(yqZ _ _).alloc (ybZ _) _
theorem zchZ (n:Int) (w:World):Calls Tryz.prog 22 #[.int .i64 n] w fun e w'=>e=.returned (.agg #[.int .i64 0,.int .i64 1,.int .i64 n,.string ⟨#[]⟩,.slice none 0 0,.slice none 0 0,.slice none 0 0])/\Below w.heap.size w w':=by
 go_enter Tryz.func22, Tryz.ntmps22
 go_wp2
 refine ylZ (v:=.agg #[.int .i64 0,.int .i64 1,.int .i64 n,.string ⟨#[]⟩,.slice none 0 0,.slice none 0 0,.slice none 0 0]) (by simp[results, Tryz.results22,go_sem]) rfl ⟨rfl,?_⟩;exact(yqZ _ _).alloc (ybZ _) _
theorem zdcZ (s:ByteArray) (w:World):Calls Tryz.prog 19 #[.string s] w fun e w'=>e=.returned (.agg #[.int .i64 0,.int .i64 4,.int .i64 0,.string s,.slice none 0 0,.slice none 0 0,.slice none 0 0])/\Below w.heap.size w w':=by
 go_enter Tryz.func19, Tryz.ntmps19
 go_wp2
 refine ylZ (v:=.agg #[.int .i64 0,.int .i64 4,.int .i64 0,.string s,.slice none 0 0,.slice none 0 0,.slice none 0 0]) (by simp[results, Tryz.results19,go_sem]) rfl ⟨rfl,?_⟩;exact(yqZ _ _).alloc (ybZ _) _
theorem zwuZ (w:World) (base:Nat) (c:UInt8) (hb:base<=w.heap.size):OwnB (w.alloc (.cells #[.int .u8 (c.toNat:Int)] 5)) base (.slice (some ⟨w.heap.size,0,none⟩) 1 1) [c]:=
 ⟨rfl,.inr ⟨w.heap.size,1,#[.int .u8 (c.toNat:Int)],rfl,hb,ydZ w _,ybZ _,by unfold maxLen;omega,rfl,rfl⟩⟩
theorem LW.trans {w W X:World} (h:LW w W) (h':LW W X):LW w X:=⟨h.b.trans (h'.b.mono h.b.size),h'.g,h'.n⟩
theorem LW.self {w W:World} (h:LW w W):LW W W:=LW.refl h.g h.n
def RunsOk:Prop:=∀(w0:World),GL w0->NG<=w0.heap.size->Calls Tryz.prog 3 #[] w0 fun e w'=>e=.returned (.bool true)/\LW w0 w'
theorem RunsOk.at (h:RunsOk) {w X:World} (hX:LW w X):Calls Tryz.prog 3 #[] X fun e w'=>e=.returned (.bool true)/\LW w w':=
 (h X hX.g hX.n).mono fun e w' ⟨h1,h2⟩=>⟨h1,hX.go h2.b⟩
structure TwoSt (w:World) (c0 c1:Array Value) (X:World):Prop where
 lw:LW w X
 k0:X.heap[w.heap.size]? =some (.cells c0 26 (0,0))
 k1:X.heap[w.heap.size+1]? =some (.cells c1 26 (0,0))
theorem TwoSt.go {w X X':World} {c0 c1:Array Value} (h:TwoSt w c0 c1 X) (hb:Below X.heap.size X X'):TwoSt w c0 c1 X':=
 ⟨h.lw.go hb,(hb.block _ (zaZ h.k0)).trans h.k0,(hb.block _ (zaZ h.k1)).trans h.k1⟩
theorem TwoSt.lt {w X:World} {c0 c1:Array Value} (h:TwoSt w c0 c1 X):w.heap.size<X.heap.size/\w.heap.size+1<X.heap.size:=⟨zaZ h.k0,zaZ h.k1⟩
theorem TwoSt.first {w:World} (hG:GL w) (hN:NG<=w.heap.size) (c0 c1:Array Value):TwoSt w c0 c1 ((w.alloc (.cells c0 26)).alloc (.cells c1 26)):=by
 refine⟨((LW.refl hG hN).alloc _).alloc _,heap_alloc (ydZ w _) _,?_⟩;have:=ydZ (w.alloc (.cells c0 26)) (.cells c1 26);rw[show(w.alloc (.cells c0 26)).heap.size=w.heap.size+1 by simp]at this;exact this
end Go.Proofs.YtdncljdfmdgdaaaGreatDoor
namespace Go.Proofs.YtdncljdfmdgdaaaGreatDoor
mutual
def Sx.sizeS:Sx.St->Nat
 | .mk _ _ nm t x b e=>1+nm.length+Sx.sizeL t+Sx.sizeXs x+Sx.sizeSs b+Sx.sizeSs e
def Sx.sizeSs:List Sx.St->Nat
 | []=>0
 | s::l=>Sx.sizeS s+Sx.sizeSs l
end
theorem Sx.sizeS_parts (s:Sx.St):Sx.sizeS s=1+s.name.length+Sx.sizeL s.t+Sx.sizeXs s.x+Sx.sizeSs s.body+Sx.sizeSs s.els:=by cases s;rw[Sx.sizeS];rfl
theorem Sx.sizeS_pos (s:Sx.St):1<=Sx.sizeS s:=by rw[Sx.sizeS_parts];omega
theorem Sx.sizeS_mem:∀ {l:List Sx.St} {x:Sx.St},x∈l->Sx.sizeS x<=Sx.sizeSs l
 | u::l,t,h=>by
  rw[Sx.sizeSs];rcases yTZ.1 h with rfl | h
  ·omega
  ·have:=Sx.sizeS_mem h;omega
theorem Sx.length_sizeSs:∀(l:List Sx.St),l.length<=Sx.sizeSs l
 | []=>by simp[Sx.sizeSs]
 | t::l=>by rw[Sx.sizeSs,yhZ];have:=Sx.length_sizeSs l;have:=Sx.sizeS_pos t;omega
end Go.Proofs.YtdncljdfmdgdaaaGreatDoor
namespace Go.Proofs.YtdncljdfmdgdaaaGreatDoor
open Go.Proofs.YtdncljdfmdgdaaaGreatDoor.Lx (Bytes)
namespace Sx
mutual
theorem typ_len:∀(t:Ty),(typ t).length+3<=8 * size t
 | .mk k n ns es ps=>by
  have h1:=typL_len ps;have h2:=fields_len ns es ps;have h3:=params_len 0 ps;have h4:=methods_len ns ps;rw[typ,size];split
  ·simp;omega
  split
  ·simp;omega
  split
  ·simp;omega
  split
  ·simp;omega
  split
  ·simp;omega
  split
  ·simp;omega
  split
  ·simp;omega
  split
  ·simp;omega
  ·simp;omega
theorem typL_len:∀(l:List Ty),(typL l).length<=8 * sizeL l
 | []=>by simp[typL]
 | t::l=>by rw[typL,sizeL];have:=typ_len t;omega
theorem fields_len:∀(ns:List Bytes) (es:List Bool) (l:List Ty),(fields ns es l).length<=8 * sizeL l
 | ns,es,[]=>by cases ns <;> cases es <;> simp[fields]
 | [],es,t::l=>by simp[fields]
 | n::ns,[],t::l=>by simp[fields]
 | n::ns,e::es,t::l=>by rw[fields,sizeL];have h1:=typ_len t;have h2:=fields_len ns es l;simp only[ycZ,yhZ,ynZ];split <;> simp <;> omega
theorem params_len:∀(i:Nat) (l:List Ty),(params i l).length<=8 * sizeL l
 | i,[]=>by simp[params]
 | i,t::l=>by
  rw[params,sizeL];have h1:=typ_len t;have h2:=params_len (i+1) l;split
  ·simp;omega
  ·simp only[ycZ];split <;> simp <;> omega
theorem methods_len:∀(ns:List Bytes) (l:List Ty),(methods ns l).length<=8 * sizeL l
 | ns,[]=>by cases ns <;> simp[methods]
 | [],t::l=>by simp[methods]
 | n::ns,t::l=>by rw[methods,sizeL];have h1:=zkjZ t;have h2:=methods_len ns l;simp only[ycZ,yhZ,ynZ];omega
theorem zkjZ:∀(t:Ty),(signature t).length+2<=8 * size t
 | .mk k n ns es ps=>by have h3:=params_len 0 ps;rw[signature,size];simp;omega
end
theorem zblZ {c:Prop} [Decidable c] {l m:List Bytes} {n:Nat} (h:c->l.length<=n) (k:¬c->m.length<=n):(if c then l else m).length<=n:=by
 split
 ·exact h ‹_›
 ·exact k ‹_›
mutual
theorem expr_len (S:Says):∀(x:Ex),(expr S x).length+4<=8 * sizeX x
 | .mk pos k n s t ns ps=>by
  have h1:=typL_len t;have h2:=record_len S 0 ns ps;have h3:=zkkZ S 7 ps;have h4:=zmtZ S ps;have h5:=zegZ S 7 ps;have h6:=zegZ S 6 ps;have h7:=ztfZ S (if level k=3 then 4 else level k) (level k+1) ps;have key:(expr S (.mk pos k n s t ns ps)).length<=4+8 * sizeXs ps+8 * sizeL t:=by
   rw[expr];refine zblZ (fun _=>?_) fun _=>zblZ (fun _=>?_) fun _=>zblZ (fun _=>?_) fun _=>zblZ (fun _=>?_) fun _=>zblZ (fun _=>?_) fun _=>zblZ (fun _=>?_) fun _=>zblZ (fun _=>?_) fun _=>
    zblZ (fun _=>?_) fun _=>zblZ (fun _=>?_) fun _=>zblZ (fun _=>?_) fun _=>zblZ (fun _=>?_) fun _=>zblZ (fun _=>?_) fun _=>?_
   all_goals simp only[ycZ,yhZ,ynZ]
   all_goals try omega
   split <;> simp <;> omega
  rw[sizeX];omega
theorem zegZ (S:Says):∀(l:Nat) (ps:List Ex),(first S l ps).length<=8 * sizeXs ps
 | l,[]=>by simp[first]
 | l,x::ps=>by rw[first,sizeXs];have:=expr_len S x;split <;> simp <;> omega
theorem ztfZ (S:Says):∀(l m:Nat) (ps:List Ex),(first S l ps).length+(second S m ps).length<=8 * sizeXs ps
 | l,m,[]=>by simp[first,second]
 | l,m,x::ps=>by rw[first,second,sizeXs];have:=expr_len S x;have:=zegZ S m ps;split <;> simp <;> omega
theorem zkkZ (S:Says):∀(l:Nat) (ps:List Ex),(first S l ps).length+(args S ps).length<=8 * sizeXs ps
 | l,[]=>by simp[first,args]
 | l,x::ps=>by rw[first,args,sizeXs];have:=expr_len S x;have:=list_len S 0 ps;split <;> simp <;> omega
theorem zmtZ (S:Says):∀(ps:List Ex),(applied S ps).length+(args S ps).length<=8 * sizeXs ps
 | []=>by simp[applied,args]
 | x::ps=>by rw[applied,args,sizeXs];have:=expr_len S x;have:=list_len S 0 ps;split <;> simp <;> omega
theorem list_len (S:Says):∀(i:Nat) (ps:List Ex),(list S i ps).length<=8 * sizeXs ps
 | i,[]=>by simp[list]
 | i,x::ps=>by rw[list,sizeXs];have:=expr_len S x;have:=list_len S (i+1) ps;split <;> simp <;> omega
theorem record_len (S:Says):∀(i:Nat) (ns:List Bytes) (ps:List Ex),(record S i ns ps).length<=8 * sizeXs ps
 | i,[],ps=>by simp[record]
 | i,n::ns,[]=>by simp[record]
 | i,n::ns,x::ps=>by rw[record,sizeXs];have:=expr_len S x;have:=record_len S (i+1) ns ps;split <;> simp <;> omega
end
mutual
theorem ztgZ (S:Says):∀(s:St),(stmt S s).length+1<=8 * sizeS s
 | .mk _ k nm t x b e=>by
  have h1:=typL_len t;have h2:=zegZ S 0 x;have h3:=stmts_len S b;have h4:=stmts_len S e;rw[stmt,sizeS]
  have hA:(if k=1 then [[108,101,116],nm]++typL t++[[61]]else if k=2 then [nm,[61]]else if k=3 then [[112,114,105,110,116]]else if k=4 then [[105,102]]
   else if k=5 then [[119,104,105,108,101]]else if k=6 then [[114,101,116,117,114,110]]else([]:List Bytes)).length<=(if k=4\/k=5 then 1 else 3+(typL t).length):=by
   split
   ·rename_i h;subst h;simp <;> omega
   split
   ·rename_i h;subst h;simp <;> omega
   split
   ·rename_i h;subst h;simp <;> omega
   split
   ·rename_i h;subst h;simp <;> omega
   split
   ·rename_i h;subst h;simp <;> omega
   split
   ·rename_i h;subst h;simp <;> omega
   ·simp
  have hB:(if k≠4/\k≠5 then [[59]]else if e.isEmpty then [[123]]++stmts S b++[[125]]
   else [[123]]++stmts S b++[[125]]++[[101,108,115,101]]++[[123]]++stmts S e++[[125]]).length<=(if k=4\/k=5 then 5+(stmts S b).length+(stmts S e).length else 1):=by
   by_cases hk:k=4\/k=5
   ·rw[if_pos hk,if_neg (by omega)];split <;> simp <;> omega
   ·rw[if_neg hk,if_pos (by omega)];simp
  simp only[ycZ]at hA hB ⊢;by_cases hk:k=4\/k=5
  ·rw[if_pos hk]at hA hB;omega
  ·rw[if_neg hk]at hA hB;omega
theorem stmts_len (S:Says):∀(l:List St),(stmts S l).length<=8 * sizeSs l
 | []=>by simp[stmts]
 | s::l=>by rw[stmts,sizeSs];have:=ztgZ S s;have:=stmts_len S l;simp;omega
end
end Sx
namespace Sx
def Tk (s:Bytes):Prop:=∃t:Lx.Tok,Lx.written t=(s,true)
theorem Tk.ne {s:Bytes} (h:Tk s):s≠[]:=by
 obtain⟨t,ht⟩:=h;have hf:=Lx.form_of_written (t:=t) (by rw[ht]);rw[ht]at hf;obtain⟨c,l,e,-⟩:=Lx.form_begins hf;simp only at e;rw[e];exact List.cons_ne_nil _ _
theorem zhcZ {k:Int} (hk:k=1\/k=2\/k=3) {s:Bytes} (h:isTok k s=true):Tk s:=by
 refine⟨⟨0,k,s,0⟩,?_⟩;have hw:(Lx.written ⟨0,k,s,0⟩).2=true:=by
  cases h2:(Lx.written ⟨0,k,s,0⟩).2 with
  | true=>rfl
  | false=>unfold isTok at h;rw[Lx.join_one_bad h2]at h;simp at h
 have hr:Lx.raw ⟨0,k,s,0⟩=some s:=by unfold Lx.raw;rw[if_pos (by simp only;omega)]
 have hf:=Lx.form_raw (Lx.form_of_written hw);rw[Lx.raw_bare,hr]at hf;injection hf with hf;rw[Prod.ext_iff];exact⟨hf.symm,hw⟩
theorem zcbZ {s:Bytes} (h:NM.small s=true):Tk s:=zhcZ (k:=1) (.inl rfl) h
theorem zltZ {s:Bytes} (h:NM.great s=true):Tk s:=zhcZ (k:=2) (.inr (.inl rfl)) h
theorem tkInt:Tk [105,110,116]:=⟨⟨0,3,[105,110,116],0⟩,by kernel_rfl⟩
theorem zwvZ:Tk [98,111,111,108]:=⟨⟨0,3,[98,111,111,108],0⟩,by kernel_rfl⟩
theorem zwwZ:Tk [116,101,120,116]:=⟨⟨0,3,[116,101,120,116],0⟩,by kernel_rfl⟩
theorem zqjZ:Tk [42]:=⟨⟨0,6,[42],0⟩,by kernel_rfl⟩
theorem zgfZ:Tk [123]:=⟨⟨0,6,[123],0⟩,by kernel_rfl⟩
theorem zggZ:Tk [125]:=⟨⟨0,6,[125],0⟩,by kernel_rfl⟩
theorem zerZ:Tk [40]:=⟨⟨0,6,[40],0⟩,by kernel_rfl⟩
theorem tkEnd:Tk [41]:=⟨⟨0,6,[41],0⟩,by kernel_rfl⟩
theorem zluZ:Tk [59]:=⟨⟨0,6,[59],0⟩,by kernel_rfl⟩
theorem zjfZ:Tk [44]:=⟨⟨0,6,[44],0⟩,by kernel_rfl⟩
theorem zviZ:Tk [58]:=⟨⟨0,6,[58],0⟩,by kernel_rfl⟩
theorem tkDot:Tk [46]:=⟨⟨0,6,[46],0⟩,by kernel_rfl⟩
theorem tkIs:Tk [61]:=⟨⟨0,6,[61],0⟩,by kernel_rfl⟩
theorem tkEq:Tk [61,61]:=⟨⟨0,6,[61,61],0⟩,by kernel_rfl⟩
theorem zwxZ:Tk [60]:=⟨⟨0,6,[60],0⟩,by kernel_rfl⟩
theorem zwyZ:Tk [43]:=⟨⟨0,6,[43],0⟩,by kernel_rfl⟩
theorem znmZ:Tk [45]:=⟨⟨0,6,[45],0⟩,by kernel_rfl⟩
theorem tkFn:Tk [102,110]:=⟨⟨0,3,[102,110],0⟩,by kernel_rfl⟩
theorem zvjZ:Tk [105,110,116,101,114,102,97,99,101]:=⟨⟨0,3,[105,110,116,101,114,102,97,99,101],0⟩,by kernel_rfl⟩
theorem zvkZ:Tk [101,109,98,101,100]:=⟨⟨0,3,[101,109,98,101,100],0⟩,by kernel_rfl⟩
theorem zwzZ:Tk [116,114,117,101]:=⟨⟨0,3,[116,114,117,101],0⟩,by kernel_rfl⟩
theorem zvlZ:Tk [102,97,108,115,101]:=⟨⟨0,3,[102,97,108,115,101],0⟩,by kernel_rfl⟩
theorem zxaZ:Tk [115,101,108,102]:=⟨⟨0,3,[115,101,108,102],0⟩,by kernel_rfl⟩
theorem tkNil:Tk [110,105,108]:=⟨⟨0,3,[110,105,108],0⟩,by kernel_rfl⟩
theorem tkNew:Tk [110,101,119]:=⟨⟨0,3,[110,101,119],0⟩,by kernel_rfl⟩
theorem tkTo:Tk [116,111]:=⟨⟨0,3,[116,111],0⟩,by kernel_rfl⟩
theorem tkNot:Tk [110,111,116]:=⟨⟨0,3,[110,111,116],0⟩,by kernel_rfl⟩
theorem tkAnd:Tk [97,110,100]:=⟨⟨0,3,[97,110,100],0⟩,by kernel_rfl⟩
theorem tkOr:Tk [111,114]:=⟨⟨0,3,[111,114],0⟩,by kernel_rfl⟩
theorem tkLet:Tk [108,101,116]:=⟨⟨0,3,[108,101,116],0⟩,by kernel_rfl⟩
theorem zvmZ:Tk [112,114,105,110,116]:=⟨⟨0,3,[112,114,105,110,116],0⟩,by kernel_rfl⟩
theorem tkIf:Tk [105,102]:=⟨⟨0,3,[105,102],0⟩,by kernel_rfl⟩
theorem zvnZ:Tk [119,104,105,108,101]:=⟨⟨0,3,[119,104,105,108,101],0⟩,by kernel_rfl⟩
theorem zthZ:Tk [114,101,116,117,114,110]:=⟨⟨0,3,[114,101,116,117,114,110],0⟩,by kernel_rfl⟩
theorem zxbZ:Tk [101,108,115,101]:=⟨⟨0,3,[101,108,115,101],0⟩,by kernel_rfl⟩
/-! ### which tokens a list has -/
def Tks (l:List Bytes):Prop:=∀s∈l,Tk s
theorem Tks.nil:Tks []:=fun s h=>by cases h
theorem Tks.cons {s:Bytes} {l:List Bytes} (h:Tk s) (hl:Tks l):Tks (s::l):=fun u hu=>by
 rcases yTZ.1 hu with rfl | hu
 ·exact h
 ·exact hl u hu
theorem Tks.app {l m:List Bytes} (h:Tks l) (k:Tks m):Tks (l++m):=fun u hu=>by
 rcases yfbZ.1 hu with hu | hu
 ·exact h u hu
 ·exact k u hu
theorem Tks.ite {c:Prop} [Decidable c] {l m:List Bytes} (h:c->Tks l) (k:¬c->Tks m):Tks (if c then l else m):=by
 split
 ·exact h ‹_›
 ·exact k ‹_›
theorem zinZ:∀ {ns:List Bytes} {es:List Bool} {ps:List Ty},(∀n∈ns,Tk n)->(∀p∈ps,Tks (typ p))->Tks (fields ns es ps)
 | [],es,ps,hn,hp=>by rw[fields];exact Tks.nil;simp
 | n::ns,[],ps,hn,hp=>by rw[fields];exact Tks.nil;simp
 | n::ns,e::es,[],hn,hp=>by rw[fields];exact Tks.nil;simp
 | n::ns,e::es,t::ps,hn,hp=>by
  rw[fields];exact(((Tks.ite (fun _=>Tks.cons zvkZ Tks.nil) (fun _=>Tks.nil))).app (((Tks.cons (hn n ysZ) Tks.nil).app (hp t ysZ)).app (Tks.cons zluZ Tks.nil))).app
   (zinZ (fun m hm=>hn m (ywZ _ hm)) (fun p hq=>hp p (ywZ _ hq)))
theorem zfeZ:∀ {ps:List Ty} {i:Nat},(∀p∈ps,Tks (typ p))->Tks (params i ps)
 | [],i,hp=>by rw[params];exact Tks.nil
 | t::ps,i,hp=>by rw[params];refine Tks.ite (fun _=>(Tks.cons tkEnd Tks.nil).app (hp t ysZ)) (fun _=>?_);exact((Tks.ite (fun _=>Tks.cons zjfZ Tks.nil) (fun _=>Tks.nil)).app (hp t ysZ)).app (zfeZ fun p hq=>hp p (ywZ _ hq))
theorem zhdZ:∀ {ns:List Bytes} {ps:List Ty},(∀n∈ns,Tk n)->(∀p∈ps,Tks (signature p))->Tks (methods ns ps)
 | [],ps,hn,hp=>by rw[methods];exact Tks.nil;simp
 | n::ns,[],hn,hp=>by rw[methods];exact Tks.nil;simp
 | n::ns,t::ps,hn,hp=>by rw[methods];exact(((Tks.cons (hn n ysZ) Tks.nil).app (hp t ysZ)).app (Tks.cons zluZ Tks.nil)).app (zhdZ (fun m hm=>hn m (ywZ _ hm)) (fun p hq=>hp p (ywZ _ hq)))
theorem ztiZ:∀(n:Nat) (t:Ty),size t<=n->∀d,rightT NM d t=true->Tks (typ t)/\Tks (signature t):=by
 intro n
 induction n with
 | zero=>intro t h;have:=size_pos t;omega
 | succ n ih=>
  intro t hn d h
  cases t with
  | mk k nm ns es ps=>
   cases d with
   | zero=>simp[rightT]at h
   | succ d=>
    rw[rightT,ygZ]at h;obtain⟨hr,hs⟩:=h;have H2:∀(l:List Ty),rightTs NM d l=true->∀p∈l,rightT NM d p=true:=by
     intro l
     induction l with
     | nil=>intro _ p hp;cases hp
     | cons u l ihl=>
      intro h p hp;rw[rightTs,ygZ]at h;rcases yTZ.1 hp with rfl | hp
      ·exact h.1
      ·exact ihl h.2 p hp
    rw[size]at hn;have H0:∀p∈ps,Tks (typ p)/\Tks (signature p):=fun p hp=>ih p (by have:=size_mem hp;omega) d (H2 ps hr p hp);have H1:∀p∈ps,Tks (typ p):=fun p hp=>(H0 p hp).1;have H3:Tks (signature (.mk k nm ns es ps)):=(by rw[signature];exact(Tks.cons zerZ Tks.nil).app (zfeZ H1));refine⟨?_,H3⟩;rw[typ];refine Tks.ite (fun _=>Tks.cons tkInt Tks.nil) fun e1=>Tks.ite (fun _=>Tks.cons zwvZ Tks.nil) fun e2=>Tks.ite (fun _=>Tks.cons zwwZ Tks.nil) fun e3=>Tks.ite (fun e4=>?_) fun e4=>Tks.ite (fun _=>?_) fun e5=>
     Tks.ite (fun e6=>?_) fun e6=>Tks.ite (fun _=>?_) fun e7=>Tks.ite (fun e8=>?_) fun _=>Tks.nil
    ·rw[shape,if_neg (by omega),if_pos e4]at hs;simp only[ygZ]at hs;exact Tks.cons (zltZ hs.1.1.1) Tks.nil
    ·refine Tks.cons zqjZ ?_
     cases ps with
     | nil=>rw[typL];exact Tks.nil
     | cons p ps=>rw[typL];exact H1 p ysZ
    ·have hq:apart NM ns=true:=(by rw[shape,if_neg (by omega),if_neg e4,if_neg e5,if_neg (by omega),if_pos e6]at hs;simp only[ygZ]at hs;exact hs.2);exact((Tks.cons zgfZ Tks.nil).app (zinZ (fun m hm=>zcbZ (apart_small hq m hm)) H1)).app (Tks.cons zggZ Tks.nil)
    ·exact(Tks.cons tkFn Tks.nil).app ((Tks.cons zerZ Tks.nil).app (zfeZ H1))
    ·have hq:apart NM ns=true:=(by rw[shape,if_neg (by omega),if_neg e4,if_neg e5,if_neg e7,if_neg e6,if_pos e8]at hs;simp only[ygZ]at hs;exact hs.2.2);exact((Tks.cons zvjZ (Tks.cons zgfZ Tks.nil)).app (zhdZ (fun m hm=>zcbZ (apart_small hq m hm)) (fun p hp=>(H0 p hp).2))).app (Tks.cons zggZ Tks.nil)
theorem zvoZ {t:Ty} {d:Nat} (h:rightT NM d t=true):Tks (typ t):=(ztiZ _ t (ybZ _) d h).1
theorem zonZ {n:Int} (h0:0<=n) (h1:n<=9223372036854775807):Tk (SY.digits n):=by
 have hf:=Lx.number_form n.toNat (by omega);exact⟨_,Lx.written_of_form (t:=⟨0,4,[],n.toNat⟩) hf⟩
theorem zqkZ {s:Bytes} (h:NM.said s=true):Tk (SY.quote s):=by
 have hw:(Lx.written ⟨0,5,s,0⟩).2=true:=by
  cases h2:(Lx.written ⟨0,5,s,0⟩).2 with
  | true=>rfl
  | false=>have h':isTok 5 s=true:=h;unfold isTok at h';rw[Lx.join_one_bad h2]at h';simp at h'
 refine⟨⟨0,5,s,0⟩,?_⟩;have hf:=Lx.form_raw (Lx.form_of_written hw);have hr:Lx.raw ⟨0,5,s,0⟩=some (Lx.quote s):=rfl;rw[Lx.raw_bare,hr]at hf;injection hf with hf;rw[Prod.ext_iff];exact⟨hf.symm,hw⟩
theorem zhqZ {l:List Ty} {d:Nat} (h:rightTs NM d l=true):Tks (typL l):=by
 cases l with
 | nil=>rw[typL];exact Tks.nil
 | cons t l=>rw[rightTs,ygZ]at h;rw[typL];exact zvoZ h.1
theorem zvpZ (k:Int):Tk (sign k):=by
 unfold sign;split
 ·exact zqjZ
 split
 ·exact zwyZ
 split
 ·exact znmZ
 split
 ·exact tkEq
 split
 ·exact zwxZ
 split
 ·exact tkAnd
 ·exact tkOr
theorem zccZ {l:List Ex} (n:Nat) (h:∀x∈l,Tks (expr SY x)):Tks (first SY n l):=by
 cases l with
 | nil=>rw[first];exact Tks.nil
 | cons x l=>rw[first];exact Tks.ite (fun _=>((Tks.cons zerZ Tks.nil).app (h x ysZ)).app (Tks.cons tkEnd Tks.nil)) (fun _=>h x ysZ)
theorem zooZ {l:List Ex} (n:Nat) (h:∀x∈l,Tks (expr SY x)):Tks (second SY n l):=by
 cases l with
 | nil=>rw[second];exact Tks.nil
 | cons x l=>rw[second];exact zccZ n fun y hy=>h y (ywZ _ hy)
theorem zmuZ {l:List Ex} (h:∀x∈l,Tks (expr SY x)):Tks (applied SY l):=by
 cases l with
 | nil=>rw[applied];exact Tks.nil
 | cons x l=>rw[applied];exact Tks.ite (fun _=>((Tks.cons zerZ Tks.nil).app (h x ysZ)).app (Tks.cons tkEnd Tks.nil)) (fun _=>h x ysZ)
theorem zjuZ:∀ {l:List Ex} {i:Nat},(∀x∈l,Tks (expr SY x))->Tks (list SY i l)
 | [],i,h=>by rw[list];exact Tks.nil
 | x::l,i,h=>by rw[list];exact((Tks.ite (fun _=>Tks.cons zjfZ Tks.nil) (fun _=>Tks.nil)).app (h x ysZ)).app (zjuZ fun y hy=>h y (ywZ _ hy))
theorem zlvZ {l:List Ex} (h:∀x∈l,Tks (expr SY x)):Tks (args SY l):=by
 cases l with
 | nil=>rw[args];exact Tks.nil
 | cons x l=>rw[args];exact((Tks.cons zerZ Tks.nil).app (zjuZ fun y hy=>h y (ywZ _ hy))).app (Tks.cons tkEnd Tks.nil)
theorem zioZ:∀ {ns:List Bytes} {l:List Ex} {i:Nat},(∀n∈ns,Tk n)->(∀x∈l,Tks (expr SY x))->Tks (record SY i ns l)
 | [],l,i,hn,h=>by rw[record];exact Tks.nil;simp
 | n::ns,[],i,hn,h=>by rw[record];exact Tks.nil;simp
 | n::ns,x::l,i,hn,h=>by
  rw[record];exact(((Tks.ite (fun _=>Tks.cons zjfZ Tks.nil) (fun _=>Tks.nil)).app (Tks.cons (hn n ysZ) (Tks.cons zviZ Tks.nil))).app (h x ysZ)).app
   (zioZ (fun m hm=>hn m (ywZ _ hm)) (fun y hy=>h y (ywZ _ hy)))
mutual
def numX:Ex->Prop
 | .mk _ _ n _ _ _ ps=>n<=9223372036854775807/\numXs ps
def numXs:List Ex->Prop
 | []=>True
 | x::l=>numX x/\numXs l
end
theorem numXs_mem:∀ {l:List Ex},numXs l->∀x∈l,numX x
 | u::l,h,x,hx=>by
  rw[numXs]at h;rcases yTZ.1 hx with rfl | hx
  ·exact h.1
  ·exact numXs_mem h.2 x hx
theorem numX_parts {x:Ex} (h:numX x):x.n<=9223372036854775807/\∀p∈x.parts,numX p:=by
 cases x;rw[numX]at h;exact⟨h.1,numXs_mem h.2⟩
mutual
def numS:St->Prop
 | .mk _ _ _ _ x b e=>numXs x/\numSs b/\numSs e
def numSs:List St->Prop
 | []=>True
 | s::l=>numS s/\numSs l
end
theorem numSs_mem:∀ {l:List St},numSs l->∀x∈l,numS x
 | u::l,h,x,hx=>by
  rw[numSs]at h;rcases yTZ.1 hx with rfl | hx
  ·exact h.1
  ·exact numSs_mem h.2 x hx
theorem ztjZ:∀(n:Nat) (x:Ex),sizeX x<=n->okX x->numX x->Tks (expr SY x):=by
 intro n
 induction n with
 | zero=>intro x h;have:=sizeX_pos x;omega
 | succ n ih=>
  intro x hn H2 H1;obtain⟨hs,hp⟩:=H2.shape;obtain⟨hxn,hnp⟩:=numX_parts H1;have H0:∀p∈x.parts,Tks (expr SY p):=fun p hm=>ih p (by have:=sizeX_mem hm;have:=sizeX_parts x;omega) (hp p hm) (hnp p hm);unfold shapeX at hs;simp only[ygZ]at hs;obtain⟨h1,h2,h3,h4,h5⟩:=hs;have H3:1<=x.kind/\x.kind<=21:=(by simpa using h1);rw[expr_eq];refine Tks.ite (fun e=>?_) fun e1=>Tks.ite (fun e=>?_) fun e2=>Tks.ite (fun e=>?_) fun e3=>Tks.ite (fun e=>?_) fun e4=>Tks.ite (fun e=>Tks.cons zxaZ Tks.nil) fun e5=>Tks.ite (fun e=>?_) fun e6=>
   Tks.ite (fun e=>?_) fun e7=>Tks.ite (fun e=>?_) fun e9=>Tks.ite (fun e=>?_) fun e10=>Tks.ite (fun e=>?_) fun e11=>Tks.ite (fun e=>?_) fun e12=>Tks.ite (fun e=>?_) fun e13=>?_
  ·have h0:0<=x.n:=(by simp only[yKZ,yCZ]at h3;omega);exact Tks.cons (zonZ h0 hxn) Tks.nil
  ·rw[if_pos e]at h2;exact Tks.cons (zqkZ h2) Tks.nil
  ·refine Tks.cons ?_ Tks.nil;split
   ·exact zwzZ
   ·exact zvlZ
  ·rw[if_neg e2,if_pos (.inl e)]at h2;exact Tks.cons (zcbZ h2) Tks.nil
  ·rw[if_pos (.inl e),ygZ]at h4;exact Tks.cons tkNil (zhqZ h4.2)
  ·rw[if_neg e2,if_neg (by omega),if_pos e]at h2;rw[if_pos e,ygZ]at h5;exact(((Tks.ite (fun _=>Tks.cons tkNew Tks.nil) (fun _=>Tks.nil)).app (Tks.cons (zltZ h2) (Tks.cons zgfZ Tks.nil))).app (zioZ (fun m hm=>zcbZ (apart_small h5.2 m hm)) H0)).app (Tks.cons zggZ Tks.nil)
  ·rw[if_neg e2,if_pos (by omega)]at h2;exact(zccZ 7 H0).app (Tks.cons tkDot (Tks.cons (zcbZ h2) Tks.nil))
  ·rw[if_neg e2,if_pos (by omega)]at h2;exact((zccZ 7 H0).app (Tks.cons tkDot (Tks.cons (zcbZ h2) Tks.nil))).app (zlvZ H0)
  ·exact(zmuZ H0).app (zlvZ H0)
  ·rw[if_pos (.inr e),ygZ]at h4;exact((zccZ 7 H0).app (Tks.cons tkTo Tks.nil)).app (zhqZ h4.2)
  ·refine Tks.cons ?_ (zccZ 6 H0);split
   ·exact znmZ
   ·exact tkNot
  ·exact((zccZ _ H0).app (Tks.cons (zvpZ _) Tks.nil)).app (zooZ _ H0)
theorem zxcZ {x:Ex} (h:okX x) (hn:numX x):Tks (expr SY x):=ztjZ _ x (ybZ _) h hn
mutual
theorem ztkZ:∀(s:St) (d:Nat),rightS NM d s=true->numS s->Tks (stmt SY s)/\stmt SY s≠[]
 | .mk pos k nm t x b e,0,h,hn=>by simp[rightS]at h
 | .mk pos k nm t x b e,d+1,h,hn=>by
  rw[rightS,ygZ,ygZ]at h;obtain⟨hs,hb,he⟩:=h;rw[numS]at hn;have hbT:=tks_stmts b d hb hn.2.1;have heT:=tks_stmts e d he hn.2.2;unfold shapeS at hs;simp only[ygZ]at hs;obtain⟨⟨h1,h2,h3⟩,h4,h5,h6⟩:=hs;have hx:∀y∈x,Tks (expr SY y):=fun y hy=>(by refine zxcZ ?_ (numXs_mem hn.1 y hy);rcases rightXs_mem h3 y hy with h | h <;> exact⟨_,h⟩);have ht:Tks (typL t):=by
   simp only[yKZ,ygZ]at h5;rcases h5 with h5 | h5
   ·cases t with
    | nil=>rw[typL];exact Tks.nil
    | cons u l=>simp at h5
   ·exact zhqZ h5.2.2
  have hbr:Tks ([[123]]++stmts SY b++[[125]]):=((Tks.cons zgfZ Tks.nil).app hbT).app (Tks.cons zggZ Tks.nil);rw[stmt];refine⟨(Tks.app ?_ (zccZ 0 hx)).app ?_,?_⟩
  ·refine Tks.ite (fun e=>?_) fun e1=>Tks.ite (fun e=>?_) fun e2=>Tks.ite (fun _=>Tks.cons zvmZ Tks.nil) fun _=>Tks.ite (fun _=>Tks.cons tkIf Tks.nil) fun _=>Tks.ite (fun _=>Tks.cons zvnZ Tks.nil) fun _=>Tks.ite (fun _=>Tks.cons zthZ Tks.nil) fun _=>Tks.nil
   ·rw[if_pos (.inl e)]at h4;exact((Tks.cons tkLet (Tks.cons (zcbZ h4) Tks.nil)).app ht).app (Tks.cons tkIs Tks.nil)
   ·rw[if_pos (.inr e)]at h4;exact Tks.cons (zcbZ h4) (Tks.cons tkIs Tks.nil)
  ·refine Tks.ite (fun _=>Tks.cons zluZ Tks.nil) fun _=>Tks.ite (fun _=>hbr) fun _=>?_;exact(((hbr.app (Tks.cons zxbZ Tks.nil)).app (Tks.cons zgfZ Tks.nil)).app heT).app (Tks.cons zggZ Tks.nil)
  ·intro h;have h9:=(List.append_eq_nil_iff.1 h).2;split at h9
   ·cases h9
   ·split at h9 <;> simp at h9
theorem tks_stmts:∀(l:List St) (d:Nat),rightSs NM d l=true->numSs l->Tks (stmts SY l)
 | [],d,h,hn=>by rw[stmts];exact Tks.nil
 | s::l,d,h,hn=>by rw[rightSs,ygZ]at h;rw[numSs]at hn;rw[stmts];exact(ztkZ s d h.1 hn.1).1.app (tks_stmts l d h.2 hn.2)
end
/-! ### the texts of several, one behind the other -/
end Sx
mutual
theorem IsEx.num {W:World} : ∀(t:Sx.Ex) (v:Value),IsEx W v t->Sx.numX t
 | .mk pos k n s t ns ps,v,h=>by rw[IsEx]at h;obtain⟨vt,vn,A0,c0,hv,h0,h1,a0,b0,e0,e1⟩:=h;rw[Sx.numX];exact⟨e1,IsExs.num ps A0 0 b0⟩
theorem IsExs.num {W:World} : ∀(l:List Sx.Ex) (A:Option Addr) (i:Nat),IsExs W A i l->Sx.numXs l
 | [],A,i,h=>by rw[Sx.numXs];trivial
 | t::l,A,i,h=>by rw[IsExs]at h;obtain⟨⟨g,off,v0,v1,v2,v3,v4,v5,v6,hA,k0,k1,k2,k3,k4,k5,k6,ht⟩,hl⟩:=h;rw[Sx.numXs];exact⟨IsEx.num t _ ht,IsExs.num l A (i+1) hl⟩
end
theorem ExRow.num {W:World} {v:Value} {l:List Sx.Ex} (h:ExRow W v l):Sx.numXs l:=by
 obtain⟨A,c,rfl,hc,hl⟩:=h;exact IsExs.num l A 0 hl
mutual
theorem IsSt.num {W:World} : ∀(t:Sx.St) (v:Value),IsSt W v t->Sx.numS t
 | .mk pos k nm t x b e,v,h=>by rw[IsSt]at h;obtain⟨vt,vx,A0,c0,A1,c1,hv,h0,h1,a0,b0,a1,b1⟩:=h;rw[Sx.numS];exact⟨h1.num,IsSts.num b A0 0 b0,IsSts.num e A1 0 b1⟩
theorem IsSts.num {W:World} : ∀(l:List Sx.St) (A:Option Addr) (i:Nat),IsSts W A i l->Sx.numSs l
 | [],A,i,h=>by rw[Sx.numSs];trivial
 | t::l,A,i,h=>by rw[IsSts]at h;obtain⟨⟨g,off,v0,v1,v2,v3,v4,v5,v6,hA,k0,k1,k2,k3,k4,k5,k6,ht⟩,hl⟩:=h;rw[Sx.numSs];exact⟨IsSt.num t _ ht,IsSts.num l A (i+1) hl⟩
end
theorem StRow.num {W:World} {v:Value} {l:List Sx.St} (h:StRow W v l):Sx.numSs l:=by
 obtain⟨A,c,rfl,hc,hl⟩:=h;exact IsSts.num l A 0 hl
namespace Sx
def Lk (s:Bytes):Prop:=s.length<=100000
theorem zopZ {r:Bytes} {t:Lx.Tok} (h:Lx.Form r t) (hk:t.kind=1\/t.kind=2\/t.kind=3):t.s.length<=32:=by
 cases h with
 | name c s hc hs hl=>exact hl
 | number c s hs hv hz=>simp at hk
 | text u hu=>simp at hk
 | two=>simp at hk
 | sign c hc=>simp at hk
theorem zheZ {k:Int} (hk:k=1\/k=2\/k=3) {s:Bytes} (h:isTok k s=true):Lk s:=by
 have hw:(Lx.written ⟨0,k,s,0⟩).2=true:=by
  cases h2:(Lx.written ⟨0,k,s,0⟩).2 with
  | true=>rfl
  | false=>unfold isTok at h;rw[Lx.join_one_bad h2]at h;simp at h
 have:=zopZ (Lx.form_of_written hw) hk;have h2:s.length<=32:=this;unfold Lk;omega
theorem zcdZ {s:Bytes} (h:NM.small s=true):Lk s:=zheZ (k:=1) (.inl rfl) h
theorem zlwZ {s:Bytes} (h:NM.great s=true):Lk s:=zheZ (k:=2) (.inr (.inl rfl)) h
theorem lkInt:Lk [105,110,116]:=by unfold Lk;decide
theorem zxdZ:Lk [98,111,111,108]:=by unfold Lk;decide
theorem zxeZ:Lk [116,101,120,116]:=by unfold Lk;decide
theorem zqlZ:Lk [42]:=by unfold Lk;decide
theorem zipZ:Lk [123]:=by unfold Lk;decide
theorem ziqZ:Lk [125]:=by unfold Lk;decide
theorem zesZ:Lk [40]:=by unfold Lk;decide
theorem lkEnd:Lk [41]:=by unfold Lk;decide
theorem zlxZ:Lk [59]:=by unfold Lk;decide
theorem zjgZ:Lk [44]:=by unfold Lk;decide
theorem zvqZ:Lk [58]:=by unfold Lk;decide
theorem lkDot:Lk [46]:=by unfold Lk;decide
theorem lkIs:Lk [61]:=by unfold Lk;decide
theorem lkEq:Lk [61,61]:=by unfold Lk;decide
theorem zxfZ:Lk [60]:=by unfold Lk;decide
theorem zxgZ:Lk [43]:=by unfold Lk;decide
theorem znnZ:Lk [45]:=by unfold Lk;decide
theorem lkFn:Lk [102,110]:=by unfold Lk;decide
theorem zvrZ:Lk [105,110,116,101,114,102,97,99,101]:=by unfold Lk;decide
theorem zvsZ:Lk [101,109,98,101,100]:=by unfold Lk;decide
theorem zxhZ:Lk [116,114,117,101]:=by unfold Lk;decide
theorem zvtZ:Lk [102,97,108,115,101]:=by unfold Lk;decide
theorem zxiZ:Lk [115,101,108,102]:=by unfold Lk;decide
theorem lkNil:Lk [110,105,108]:=by unfold Lk;decide
theorem lkNew:Lk [110,101,119]:=by unfold Lk;decide
theorem lkTo:Lk [116,111]:=by unfold Lk;decide
theorem lkNot:Lk [110,111,116]:=by unfold Lk;decide
theorem lkAnd:Lk [97,110,100]:=by unfold Lk;decide
theorem lkOr:Lk [111,114]:=by unfold Lk;decide
theorem lkLet:Lk [108,101,116]:=by unfold Lk;decide
theorem zvuZ:Lk [112,114,105,110,116]:=by unfold Lk;decide
theorem lkIf:Lk [105,102]:=by unfold Lk;decide
theorem zvvZ:Lk [119,104,105,108,101]:=by unfold Lk;decide
theorem ztlZ:Lk [114,101,116,117,114,110]:=by unfold Lk;decide
theorem zxjZ:Lk [101,108,115,101]:=by unfold Lk;decide
/-! ### which tokens a list has -/
def Lks (l:List Bytes):Prop:=∀s∈l,Lk s
theorem Lks.nil:Lks []:=fun s h=>by cases h
theorem Lks.cons {s:Bytes} {l:List Bytes} (h:Lk s) (hl:Lks l):Lks (s::l):=fun u hu=>by
 rcases yTZ.1 hu with rfl | hu
 ·exact h
 ·exact hl u hu
theorem Lks.app {l m:List Bytes} (h:Lks l) (k:Lks m):Lks (l++m):=fun u hu=>by
 rcases yfbZ.1 hu with hu | hu
 ·exact h u hu
 ·exact k u hu
theorem Lks.ite {c:Prop} [Decidable c] {l m:List Bytes} (h:c->Lks l) (k:¬c->Lks m):Lks (if c then l else m):=by
 split
 ·exact h ‹_›
 ·exact k ‹_›
theorem zirZ:∀ {ns:List Bytes} {es:List Bool} {ps:List Ty},(∀n∈ns,Lk n)->(∀p∈ps,Lks (typ p))->Lks (fields ns es ps)
 | [],es,ps,hn,hp=>by rw[fields];exact Lks.nil;simp
 | n::ns,[],ps,hn,hp=>by rw[fields];exact Lks.nil;simp
 | n::ns,e::es,[],hn,hp=>by rw[fields];exact Lks.nil;simp
 | n::ns,e::es,t::ps,hn,hp=>by
  rw[fields];exact(((Lks.ite (fun _=>Lks.cons zvsZ Lks.nil) (fun _=>Lks.nil))).app (((Lks.cons (hn n ysZ) Lks.nil).app (hp t ysZ)).app (Lks.cons zlxZ Lks.nil))).app
   (zirZ (fun m hm=>hn m (ywZ _ hm)) (fun p hq=>hp p (ywZ _ hq)))
theorem zffZ:∀ {ps:List Ty} {i:Nat},(∀p∈ps,Lks (typ p))->Lks (params i ps)
 | [],i,hp=>by rw[params];exact Lks.nil
 | t::ps,i,hp=>by rw[params];refine Lks.ite (fun _=>(Lks.cons lkEnd Lks.nil).app (hp t ysZ)) (fun _=>?_);exact((Lks.ite (fun _=>Lks.cons zjgZ Lks.nil) (fun _=>Lks.nil)).app (hp t ysZ)).app (zffZ fun p hq=>hp p (ywZ _ hq))
theorem zhfZ:∀ {ns:List Bytes} {ps:List Ty},(∀n∈ns,Lk n)->(∀p∈ps,Lks (signature p))->Lks (methods ns ps)
 | [],ps,hn,hp=>by rw[methods];exact Lks.nil;simp
 | n::ns,[],hn,hp=>by rw[methods];exact Lks.nil;simp
 | n::ns,t::ps,hn,hp=>by rw[methods];exact(((Lks.cons (hn n ysZ) Lks.nil).app (hp t ysZ)).app (Lks.cons zlxZ Lks.nil)).app (zhfZ (fun m hm=>hn m (ywZ _ hm)) (fun p hq=>hp p (ywZ _ hq)))
theorem ztmZ:∀(n:Nat) (t:Ty),size t<=n->∀d,rightT NM d t=true->Lks (typ t)/\Lks (signature t):=by
 intro n
 induction n with
 | zero=>intro t h;have:=size_pos t;omega
 | succ n ih=>
  intro t hn d h
  cases t with
  | mk k nm ns es ps=>
   cases d with
   | zero=>simp[rightT]at h
   | succ d=>
    rw[rightT,ygZ]at h;obtain⟨hr,hs⟩:=h;have H2:∀(l:List Ty),rightTs NM d l=true->∀p∈l,rightT NM d p=true:=by
     intro l
     induction l with
     | nil=>intro _ p hp;cases hp
     | cons u l ihl=>
      intro h p hp;rw[rightTs,ygZ]at h;rcases yTZ.1 hp with rfl | hp
      ·exact h.1
      ·exact ihl h.2 p hp
    rw[size]at hn;have H0:∀p∈ps,Lks (typ p)/\Lks (signature p):=fun p hp=>ih p (by have:=size_mem hp;omega) d (H2 ps hr p hp);have H1:∀p∈ps,Lks (typ p):=fun p hp=>(H0 p hp).1;have H3:Lks (signature (.mk k nm ns es ps)):=(by rw[signature];exact(Lks.cons zesZ Lks.nil).app (zffZ H1));refine⟨?_,H3⟩;rw[typ];refine Lks.ite (fun _=>Lks.cons lkInt Lks.nil) fun e1=>Lks.ite (fun _=>Lks.cons zxdZ Lks.nil) fun e2=>Lks.ite (fun _=>Lks.cons zxeZ Lks.nil) fun e3=>Lks.ite (fun e4=>?_) fun e4=>Lks.ite (fun _=>?_) fun e5=>
     Lks.ite (fun e6=>?_) fun e6=>Lks.ite (fun _=>?_) fun e7=>Lks.ite (fun e8=>?_) fun _=>Lks.nil
    ·rw[shape,if_neg (by omega),if_pos e4]at hs;simp only[ygZ]at hs;exact Lks.cons (zlwZ hs.1.1.1) Lks.nil
    ·refine Lks.cons zqlZ ?_
     cases ps with
     | nil=>rw[typL];exact Lks.nil
     | cons p ps=>rw[typL];exact H1 p ysZ
    ·have hq:apart NM ns=true:=(by rw[shape,if_neg (by omega),if_neg e4,if_neg e5,if_neg (by omega),if_pos e6]at hs;simp only[ygZ]at hs;exact hs.2);exact((Lks.cons zipZ Lks.nil).app (zirZ (fun m hm=>zcdZ (apart_small hq m hm)) H1)).app (Lks.cons ziqZ Lks.nil)
    ·exact(Lks.cons lkFn Lks.nil).app ((Lks.cons zesZ Lks.nil).app (zffZ H1))
    ·have hq:apart NM ns=true:=(by rw[shape,if_neg (by omega),if_neg e4,if_neg e5,if_neg e7,if_neg e6,if_pos e8]at hs;simp only[ygZ]at hs;exact hs.2.2);exact((Lks.cons zvrZ (Lks.cons zipZ Lks.nil)).app (zhfZ (fun m hm=>zcdZ (apart_small hq m hm)) (fun p hp=>(H0 p hp).2))).app (Lks.cons ziqZ Lks.nil)
theorem znoZ {t:Ty} {d:Nat} (h:rightT NM d t=true):Lks (typ t):=(ztmZ _ t (ybZ _) d h).1
end Sx
end Go.Proofs.YtdncljdfmdgdaaaGreatDoor
namespace Go.Proofs.YtdncljdfmdgdaaaGreatDoor
open Go.RowKit Go.Shelf
theorem znpZ {ops:Array Oper} {rest:List Oper} {o:Oper} {a:Act} {Q:Exit->Act->World->Prop} {W:World} (base:Nat) (hgd:o.guard=none) (s x:Operand)
  (ho:o.op=.call { callee:=.builtin .append,args:=#[s,x],argTypes:=#[98, 9] })
  (v:Value) (l y:List UInt8) (hs:a.eval s=v) (hx:a.eval x=.string ⟨y.toArray⟩) (HO:OwnB W base v l) (hbase:base<=W.heap.size) (hl:l.length+y.length<=140737488351232)
  (h:∀v1 w1,OwnB w1 base v1 (l++y)->W.grownBy w1 v.ownBlock->wpList Tryz.prog ops Q rest (a.put o.dst v1) w1) :
  wpList Tryz.prog ops Q (o::rest) a W:=by
 obtain⟨i0,hi,hz0,hz1,hz2⟩:=info_parts zddZ;refine Lib.wpList_append_own_string W hgd s x 98 9 ho base 5 i0 Tryz.underlying98 Tryz.underlying9 hi hz0 hz1 hz2 v l.length (bytesV l) hs HO ⟨y.toArray⟩ hx (by unfold maxLen;show l.length+y.length<=_;omega) (by show l.length+y.length<=_;omega) hbase ?_;intro v1 w1 hown hg _;refine h v1 w1 ?_ hg;unfold OwnB;rw[ycZ,show bytesV (l++y)=bytesV l++Lib.strCells ⟨y.toArray⟩by unfold bytesV Lib.strCells;rw[List.map_append]];exact hown
namespace Sx
theorem text_step {b s:Lx.Bytes} {l:List Lx.Bytes} {i:Nat} (h:¬65536<((if 0<i then b++[32]else b)++s).length):textFrom i b (s::l)=textFrom (i+1) ((if 0<i then b++[32]else b)++s) l:=by
 rw[textFrom,if_neg h]
theorem text_long {b s:Lx.Bytes} {l:List Lx.Bytes} {i:Nat} (h:65536<((if 0<i then b++[32]else b)++s).length):textFrom i b (s::l)=none:=by
 rw[textFrom,if_pos h]
end Sx
theorem zvwZ (ts:List Lx.Bytes) (v:Value) (w:World) (hv:StrRow w v ts) (hl:ts.length<=1000000000) (hts:∀t∈ts,t.length<=1000000000) :
  Calls Tryz.prog 70 #[v] w fun e w'=>e=.returned (.tuple #[.string ⟨(Sx.text ts).1.toArray⟩,.int .i64 ((Sx.text ts).2:Nat)])/\Below w.heap.size w w':=by
 obtain⟨A,c,rfl,hrow⟩:=hv;have HV:=zh (show StrRow w (.slice A ts.length c) ts from⟨A,c,rfl,hrow⟩);have Hm:=zh hts;clear hrow hts;obtain⟨k,hk⟩:=zE (ts.length);rw[hk]at HV hl ⊢;have HK:=zh hk;have k0:(0:Int)<=(k:Int):=by omega
 have k1:(k:Int)<=1000000000:=by omega
 clear hk;obtain⟨i0,hi0,hz0,hz1,hz2⟩:=info_parts zddZ;go_enter Tryz.func70, Tryz.ntmps70;go_wp2_with (at_make;refine wpList_make_own _ rfl _ _ 98 rfl w.heap.size 5 i0 (.int .u8 0) 1 Tryz.underlying98 hi0 hz0 hz1 .i64 .i64 _ 0 rfl rfl rfl (by rw[hz2];omega) (by unfold maxLen;omega) (ybZ _) ?_;intro W2 hown H2);have Ho:Hid (OwnB W2 w.heap.size (.slice (some ⟨w.heap.size,0,none⟩) 0 0) []):=zh hown;have Hp:=zh (zeZ H2);clear hown H2;go_loopg [4,5] k (fun n v u wq=>∃(m:Nat) (l:List UInt8),n=k-m/\u=.int .i64 (m:Int)/\m<=k/\Below w.heap.size w wq/\OwnB wq w.heap.size v l/\l.length<=65536/\Sx.textFrom m l (ts.drop m)=Sx.textFrom 0 [] ts)
 case atStart=>exact⟨0,[],rfl,rfl,yxZ _,Hp.o,Ho.o,by simp,rfl⟩
 case round=>
  obtain⟨m,l,hn,rfl,hm,hb,ho,hll,he⟩:=hrel;obtain⟨A0,cap0,hv0⟩:=ho.slice;subst hv0;have HN:=zh hn;have HB:=zh hb;have HO:=zh ho;have HE:=zh he;have m0:(0:Int)<=(m:Int):=(by omega);have ll1:(l.length:Int)<=65536:=(by omega);clear hn hb ho he;by_cases hlt:m<k
  ·have Hl:(m:Int)<(k:Int):=(by omega);have H8:m<ts.length:=(by have:=HK.o;omega);obtain⟨g,off,rfl,hsp⟩:=HV.o.spot m H8;have Hk:=Hm.o _ (yfZ H8);have hd:ts.drop m=ts[m]::ts.drop (m+1):=List.drop_eq_getElem_cons H8;obtain⟨x,hx⟩:=zE (ts[m]'H8);rw[hx]at hsp Hk hd;have Hg:=zh hsp;have hE2:=HE.o;rw[hd]at hE2;have H7:=zh hE2;clear hd hE2 hx hsp;have Hq:x.length<=1000000000:=Hk;by_cases hm0:0<m
   ·have Hb:(0:Int)<(m:Int):=(by omega);go_upto_region 7 with(at_builtin;refine zcnZ w.heap.size rfl (.tmp 15) (.tmp 16) rfl _ l 32 rfl rfl HO.o HB.o.size (by omega) ?_;intro v1 w1 hown Hh)
    have Hj:=Below.turn (HB.o.alloc HB.o.size (.cells #[.int .u8 (UInt8.toNat 32:Int)] 5)) Hh (fun g hg=>OwnB.base HO.o g hg);obtain⟨l1,hl1⟩:=zE (l++[32]);have Hn:l1.length<=65537:=(by rw[<-hl1];simp;omega);have Hc:=zh (show(if 0<m then l++[32]else l)=l1 by rw[if_pos hm0,hl1]);rw[hl1]at hown;obtain⟨A1,cap1,hv1⟩:=hown.slice;subst hv1;have Hi:=zh hown;have Hd:=zh Hj;clear hown Hj Hh hl1;obtain⟨hg,q0⟩:=Hg.o _ Hd.o;obtain⟨l2,hl2⟩:=zE (l1++x);have H4:(l1).length+x.length<=140737488351232:=(by omega);go_upto_region 8 with(at_builtin;refine znpZ w.heap.size rfl (.tmp 18) (.tmp 22) rfl _ l1 x rfl rfl Hi.o Hd.o.size H4 ?_;intro v2 w2 H0 H1)
    have H6:=Below.turn Hd.o H1 (fun g hg=>OwnB.base Hi.o g hg);rw[hl2]at H0;obtain⟨A2,cap2,hv2⟩:=H0.slice;subst hv2;have H9:=zh H0;have H5:=zh H6;have H3:=zh (show((if 0<m then l++[32]else l)++x)=l2 by rw[Hc.o,hl2]);clear H0 H6 H1 hl2 hg q0;by_cases hbig:65536<l2.length
    ·have He:(65536:Int)<(l2.length:Int):=by omega
     have HR:=zh (show Sx.text ts=([],2)by
      unfold Sx.text
      rw[<-H7.o,Sx.text_long (by rw[H3.o];exact hbig)])
     clear hbig;go_wp2_with fail;refine ylZ (yDZ rfl _ _ _) rfl ?_;rw[HR.o];exact⟨rfl,H5.o⟩
    ·have He:¬(65536:Int)<(l2.length:Int):=(by omega);have Ha:=zh hbig;have HS:=zh (show Sx.textFrom (m+1) l2 (ts.drop (m+1))=Sx.textFrom 0 [] ts by rw[<-H7.o,Sx.text_step (by rw[H3.o];exact hbig),H3.o]);clear hbig;go_wp2_with fail;go_roundg (k-(m+1))
     case measure=>have:=HN.o;omega
     case rel=>exact⟨m+1,l2,rfl,by simp,hlt,H5.o,H9.o,by have:=Ha.o;omega,HS.o⟩
   ·have Hb:¬(0:Int)<(m:Int):=(by omega);have Hc:=zh (show(if 0<m then l++[32]else l)=l by rw[if_neg hm0]);obtain⟨hg,q0⟩:=Hg.o _ HB.o;obtain⟨l2,hl2⟩:=zE (l++x);have H4:l.length+x.length<=140737488351232:=(by omega);go_upto_region 8 with(at_builtin;refine znpZ w.heap.size rfl (.tmp 18) (.tmp 22) rfl _ l x rfl rfl HO.o HB.o.size H4 ?_;intro v2 w2 H0 H1)
    have H6:=Below.turn HB.o H1 (fun g hg=>OwnB.base HO.o g hg);rw[hl2]at H0;obtain⟨A2,cap2,hv2⟩:=H0.slice;subst hv2;have H9:=zh H0;have H5:=zh H6;have H3:=zh (show((if 0<m then l++[32]else l)++x)=l2 by rw[Hc.o,hl2]);clear H0 H6 H1 hl2 hg q0;by_cases hbig:65536<l2.length
    ·have He:(65536:Int)<(l2.length:Int):=by omega
     have HR:=zh (show Sx.text ts=([],2)by
      unfold Sx.text
      rw[<-H7.o,Sx.text_long (by rw[H3.o];exact hbig)])
     clear hbig;go_wp2_with fail;refine ylZ (yDZ rfl _ _ _) rfl ?_;rw[HR.o];exact⟨rfl,H5.o⟩
    ·have He:¬(65536:Int)<(l2.length:Int):=(by omega);have Ha:=zh hbig;have HS:=zh (show Sx.textFrom (m+1) l2 (ts.drop (m+1))=Sx.textFrom 0 [] ts by rw[<-H7.o,Sx.text_step (by rw[H3.o];exact hbig),H3.o]);clear hbig;go_wp2_with fail;go_roundg (k-(m+1))
     case measure=>have:=HN.o;omega
     case rel=>exact⟨m+1,l2,rfl,by simp,hlt,H5.o,H9.o,by have:=Ha.o;omega,HS.o⟩
  ·have Hl:¬(m:Int)<(k:Int):=by omega
   have HR:=zh (show Sx.text ts=if 4096<k then([],3)else(l,0)by
    unfold Sx.text
    rw[<-HE.o,yNZ (by have:=HK.o;omega),Sx.textFrom,HK.o])
   by_cases hmany:4096<k
   ·have Hf:(4096:Int)<(k:Int):=(by omega);rw[if_pos hmany]at HR;clear hmany;go_wp2_with fail;refine ylZ (yDZ rfl _ _ _) rfl ?_;rw[HR.o];exact⟨rfl,HB.o⟩
   ·have Hf:¬(4096:Int)<(k:Int):=(by omega);rw[if_neg hmany]at HR;clear hmany;have Hr:(convert 98 9 (.slice A0 l.length cap0)).run Tryz.prog wr=.ok (.string ⟨l.toArray⟩) wr:=zdpZ HO.o;go_wp2_with fail;refine ylZ (yDZ rfl _ _ _) rfl ?_;rw[HR.o];exact⟨rfl,HB.o⟩
end Go.Proofs.YtdncljdfmdgdaaaGreatDoor
