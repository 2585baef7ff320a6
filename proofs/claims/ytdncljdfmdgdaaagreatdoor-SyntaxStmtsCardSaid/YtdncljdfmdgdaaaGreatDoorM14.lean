/-
  The walk of sides.
-/
import Derived.Test.YtdncljdfmdgdaaaGreatDoorM1
import Derived.Test.YtdncljdfmdgdaaaGreatDoorM11
import Derived.Test.YtdncljdfmdgdaaaGreatDoorM13
set_option linter.unusedSimpArgs false
set_option linter.unusedVariables false
set_option maxRecDepth 100000
set_option maxHeartbeats 8000000
namespace Go.Proofs.YtdncljdfmdgdaaaGreatDoor
open Go.RowKit Go.Shelf Go.WideMaps
theorem Sx.shape_kindX {N:Sx.Names} {k n:Int} {s:Lx.Bytes} {t:List Sx.Ty} {ns:List Lx.Bytes} {m:Nat} (h:Sx.shapeX N k n s t ns m=true):1<=k/\k<=21:=by
 unfold Sx.shapeX at h;rw[ygZ]at h;simpa using h.1
theorem Sx.okX.kind {x:Sx.Ex} (h:Sx.okX x):1<=x.kind/\x.kind<=21:=Sx.shape_kindX h.shape.1
theorem Sx.shape15 {k n:Int} {s:Lx.Bytes} {t:List Sx.Ty} {ns:List Lx.Bytes} {m:Nat} (hk:15<=k) (h:Sx.shapeX NM k n s t ns m=true):m=2:=by
 have H0:=(Sx.shape_kindX h).2;have:k=15\/k=16\/k=17\/k=18\/k=19\/k=20\/k=21:=by omega
 rcases this with rfl | rfl | rfl | rfl | rfl | rfl | rfl <;> simp[Sx.shapeX]at h <;> exact h.2.2.2.2
theorem Sx.level15 {k:Int} (h1:15<=k) (h2:k<=21):1<=Sx.level k/\Sx.level k<=5:=by
 have:k=15\/k=16\/k=17\/k=18\/k=19\/k=20\/k=21:=by omega
 rcases this with rfl | rfl | rfl | rfl | rfl | rfl | rfl <;> exact⟨by decide,by decide⟩
theorem Sx.sign_ok (k:Int):Sx.sign k≠[]/\(Sx.sign k).length<=1000000000:=by
 unfold Sx.sign
 (repeat' split) <;> exact⟨by simp,by simp⟩
def Sx.sided (x:Sx.Ex):List Lx.Bytes:=Sx.first SY (if Sx.level x.kind=3 then 4 else Sx.level x.kind) x.parts++[Sx.sign x.kind]++Sx.second SY (Sx.level x.kind+1) x.parts
def SidesOk (W0:World) (b:Nat) (x:Sx.Ex):Prop:=∀(v:Value) (l:List Lx.Bytes) (w:World),Sx.okX x->IsEx W0 v x->Sx.sizeX x<=1000000->Wrote W0 b l.length l w->l.length+(Sx.sided x).length<=900000000->
 Calls Tryz.prog 119 #[.pointer (some ⟨b,0,none⟩),v] w fun e w'=>e=.returned (.tuple #[])/\Wrote W0 b (l++Sx.sided x).length (l++Sx.sided x) w'/\KeepW w w'
theorem zqbZ {W0:World} {b:Nat} {x:Sx.Ex} (ih:∀p∈x.parts,ExprOk W0 b p) (h15:15<=x.kind) (h3:Sx.level x.kind=3):SidesOk W0 b x:=by
 intro v l w hr ht hz h hc;obtain⟨hsh,hrp⟩:=hr.shape;have Hu:=Sx.shape15 h15 hsh;have Ha:=hr.kind.2;have H8:=Sx.level15 h15 Ha;have Hc:=Sx.sign_ok x.kind;have Hs:=Sx.sizeX_parts x;have H7:0<x.parts.length:=by omega
 have H6:1<x.parts.length:=by omega
 obtain⟨At,ct,An,cn,Ap,cp,rfl,-,-,hp,-⟩:=ht.agg;obtain⟨g0,off0,At0,ct0,An0,cn0,Ap0,cp0,hA0,hty0,hc0⟩:=hp.spot 0 H7;obtain⟨p0,hpe0⟩:=zE (x.parts[0]'H7);have H0:p0∈x.parts:=by rw[<-hpe0];exact yfZ H7
 rw[hpe0]at hc0 hty0;have Hq:Sx.sizeX p0<=1000000:=by have:=Sx.sizeX_mem H0;omega
 have Hj:(0:Int)<(x.parts.length:Int):=by omega
 rw[yrZ,ypZ]at hc0;have He:=zh hc0;have Hf:=zh hty0;clear hc0 hty0;obtain⟨g1,off1,At1,ct1,An1,cn1,Ap1,cp1,hA1,hty1,hc1⟩:=hp.spot 1 H6;obtain⟨p1,hpe1⟩:=zE (x.parts[1]'H6);have H1:p1∈x.parts:=by rw[<-hpe1];exact yfZ H6
 rw[hpe1]at hc1 hty1;have Hk:Sx.sizeX p1<=1000000:=by have:=Sx.sizeX_mem H1;omega
 have Hl:(1:Int)<(x.parts.length:Int):=by omega
 rw[Nat.one_mul]at hc1;have Hg:=zh hc1;have Hb:=zh hty1;clear hc1 hty1;subst hA0;injection hA1 with hA1;injection hA1 with e1 e2;subst e1 e2;have hk:=fun w=>zhlZ x.kind w (by omega) Ha;have Hi:=fun w=>zniZ x.kind w h15 Ha;obtain⟨sg,hsge⟩:=zE (Sx.sign x.kind);obtain⟨n,hn⟩:=zE (Sx.level x.kind);rw[hn]at hk H8 h3;rw[hsge]at Hi Hc;have Hx:(0:Int)<=(n:Int):=by omega
 have Hy:(n:Int)<=5:=by omega
 have H9:Sx.sided x=Sx.part (n+1) p0++[sg]++Sx.part (n+1) p1:=by unfold Sx.sided;rw[hn,hsge,Sx.first_head _ H7,Sx.second_head _ H6,hpe0,hpe1,if_pos h3];rw[h3]
 obtain⟨q0,hq0⟩:=zE (Sx.part (n+1) p0);obtain⟨q1,hq1⟩:=zE (Sx.part (n+1) p1);rw[hq0,hq1]at H9;have Hd:l.length+(q0.length+1+q1.length)<=900000000:=by rw[H9]at hc;simp at hc;omega
 have HA:=zh (show ∀u w,IsEx W0 u p0->Wrote W0 b (l).length (l) w->Calls Tryz.prog 116 #[.pointer (some ⟨b,0,none⟩),u,.int .i64 ((n:Int)+1)] w fun e w'=>e=.returned (.tuple #[])/\Wrote W0 b (l++q0).length (l++q0) w'/\KeepW w w' from fun u w hu hw=>by
  have:=zbyZ (ih p0 H0) (n+1) (by omega) (hrp p0 H0).kind.1 (hrp p0 H0).kind.2 u (l) w (hrp p0 H0) hu Hq hw (by rw[hq0];(try simp);omega);rw[hq0]at this;exact this)
 have HB:=zh (show ∀u w,IsEx W0 u p1->Wrote W0 b (l++q0++[sg]).length (l++q0++[sg]) w->Calls Tryz.prog 116 #[.pointer (some ⟨b,0,none⟩),u,.int .i64 ((n:Int)+1)] w fun e w'=>e=.returned (.tuple #[])/\Wrote W0 b (l++q0++[sg]++q1).length (l++q0++[sg]++q1) w'/\KeepW w w' from fun u w hu hw=>by
  have:=zbyZ (ih p1 H1) (n+1) (by omega) (hrp p1 H1).kind.1 (hrp p1 H1).kind.2 u (l++q0++[sg]) w (hrp p1 H1) hu Hk hw (by rw[hq1];(try simp);omega);rw[hq1]at this;exact this)
 have Hw:(l++q0).length+1<=1000000000:=by simp;omega
 obtain⟨L,hL⟩:=zE (w.heap.size);obtain⟨w2,hw2⟩:=zE (w.alloc (.cells #[.int .i64 x.pos,.int .i64 x.kind,.int .i64 x.n,.string ⟨x.s.toArray⟩,.slice At x.t.length ct,.slice An x.names.length cn,.slice (some ⟨g0,off0,none⟩) x.parts.length cp] 39));have Hh:=Live.first h #[.int .i64 x.pos,.int .i64 x.kind,.int .i64 x.n,.string ⟨x.s.toArray⟩,.slice At x.t.length ct,.slice An x.names.length cn,.slice (some ⟨g0,off0,none⟩) x.parts.length cp] 39 hw2;rw[hL]at Hh;have H2:=zh Hh;clear Hh h;have e3:((n:Int)==3)=true:=by rw[ytZ];omega
 have HK:=zh hk;have Hn:=zh Hi;have Hv:=zh Hc;have Ht:=zh H9;obtain⟨kd,hkd⟩:=zE (x.kind);rw[hkd]at HK Hn H2;clear hk Hi Hc H9 hsge hn H8 h3 Hu hsh h15 Ha Hs hq0 hq1 hpe0 hpe1 hz Hq Hk hc ih hr hrp ht hp Hd hkd H0 H1 H7 H6;go_enter Tryz.func119, Tryz.ntmps119;obtain⟨x0,x1,x2,x3,x4,x5,x6,hl1,hl2,hbl⟩:=H2.o.c7;obtain⟨dg,d0,d1,d2,d3,d4,d5,d6⟩:=He.o w2 H2.o.wr.below;obtain⟨eg,e0,e1,e2,e3,e4,e5,e6⟩:=Hg.o w2 H2.o.wr.below;go_upto_region 6 with(first | (go_at_call 136;refine(HK.o w2).mono ?_;rintro e w' ⟨rfl,rfl⟩) | (go_at_call 116;refine(HA.o _ w2 Hf.o H2.o.wr).mono ?_;rintro e w3 ⟨rfl,hW3,Hr⟩));have H3:=zh (H2.o.go oEx oEx hW3 Hr);clear hW3 Hr;clear x0 x1 x2 x3 x4 x5 x6 hl1 hl2 hbl d0 d1 d2 d3 d4 d5 d6 dg e0 e1 e2 e3 e4 e5 e6 eg;obtain⟨x0,x1,x2,x3,x4,x5,x6,hl1,hl2,hbl⟩:=H3.o.c7;obtain⟨dg,d0,d1,d2,d3,d4,d5,d6⟩:=He.o w3 H3.o.wr.below;obtain⟨eg,e0,e1,e2,e3,e4,e5,e6⟩:=Hg.o w3 H3.o.wr.below;go_upto_region 6 with fail
 have Ho:=zh H3.o.drew
 go_region_with (first | (go_at_call 137;refine(Hn.o _).mono ?_;rintro e w' ⟨rfl,rfl⟩) | (go_at_call 100;refine(Ho.o.lput1 sg Hv.o Hw).mono ?_;rintro e w4 ⟨rfl,hW4,Hp⟩))
 have H4:=zh (Ho.o.go oEx oEx hW4 Hp);clear hW4 Hp;clear x0 x1 x2 x3 x4 x5 x6 hl1 hl2 hbl d0 d1 d2 d3 d4 d5 d6 dg e0 e1 e2 e3 e4 e5 e6 eg;obtain⟨x0,x1,x2,x3,x4,x5,x6,hl1,hl2,hbl⟩:=H4.o.c7;obtain⟨dg,d0,d1,d2,d3,d4,d5,d6⟩:=He.o w4 H4.o.wr.below;obtain⟨eg,e0,e1,e2,e3,e4,e5,e6⟩:=Hg.o w4 H4.o.wr.below;go_wp2_with (go_at_call 116;refine(HB.o _ w4 Hb.o H4.o.wr).mono ?_;rintro e w5 ⟨rfl,hW5,Hm⟩);have H5:=zh (H4.o.go oEx oEx hW5 Hm);clear hW5 Hm;clear x0 x1 x2 x3 x4 x5 x6 hl1 hl2 hbl d0 d1 d2 d3 d4 d5 d6 dg e0 e1 e2 e3 e4 e5 e6 eg;go_end0;refine⟨rfl,?_,H5.o.kp⟩;rw[Ht.o];simpa[yiZ]using H5.o.wr
theorem zqcZ {W0:World} {b:Nat} {x:Sx.Ex} (ih:∀p∈x.parts,ExprOk W0 b p) (h15:15<=x.kind) (h3:¬Sx.level x.kind=3):SidesOk W0 b x:=by
 intro v l w hr ht hz h hc;obtain⟨hsh,hrp⟩:=hr.shape;have Hu:=Sx.shape15 h15 hsh;have Ha:=hr.kind.2;have H8:=Sx.level15 h15 Ha;have Hc:=Sx.sign_ok x.kind;have Hs:=Sx.sizeX_parts x;have H7:0<x.parts.length:=by omega
 have H6:1<x.parts.length:=by omega
 obtain⟨At,ct,An,cn,Ap,cp,rfl,-,-,hp,-⟩:=ht.agg;obtain⟨g0,off0,At0,ct0,An0,cn0,Ap0,cp0,hA0,hty0,hc0⟩:=hp.spot 0 H7;obtain⟨p0,hpe0⟩:=zE (x.parts[0]'H7);have H0:p0∈x.parts:=by rw[<-hpe0];exact yfZ H7
 rw[hpe0]at hc0 hty0;have Hq:Sx.sizeX p0<=1000000:=by have:=Sx.sizeX_mem H0;omega
 have Hj:(0:Int)<(x.parts.length:Int):=by omega
 rw[yrZ,ypZ]at hc0;have He:=zh hc0;have Hf:=zh hty0;clear hc0 hty0;obtain⟨g1,off1,At1,ct1,An1,cn1,Ap1,cp1,hA1,hty1,hc1⟩:=hp.spot 1 H6;obtain⟨p1,hpe1⟩:=zE (x.parts[1]'H6);have H1:p1∈x.parts:=by rw[<-hpe1];exact yfZ H6
 rw[hpe1]at hc1 hty1;have Hk:Sx.sizeX p1<=1000000:=by have:=Sx.sizeX_mem H1;omega
 have Hl:(1:Int)<(x.parts.length:Int):=by omega
 rw[Nat.one_mul]at hc1;have Hg:=zh hc1;have Hb:=zh hty1;clear hc1 hty1;subst hA0;injection hA1 with hA1;injection hA1 with e1 e2;subst e1 e2;have hk:=fun w=>zhlZ x.kind w (by omega) Ha;have Hi:=fun w=>zniZ x.kind w h15 Ha;obtain⟨sg,hsge⟩:=zE (Sx.sign x.kind);obtain⟨n,hn⟩:=zE (Sx.level x.kind);rw[hn]at hk H8 h3;rw[hsge]at Hi Hc;have Hx:(0:Int)<=(n:Int):=by omega
 have Hy:(n:Int)<=5:=by omega
 have H9:Sx.sided x=Sx.part (n) p0++[sg]++Sx.part (n+1) p1:=by unfold Sx.sided;rw[hn,hsge,Sx.first_head _ H7,Sx.second_head _ H6,hpe0,hpe1,if_neg h3]
 obtain⟨q0,hq0⟩:=zE (Sx.part (n) p0);obtain⟨q1,hq1⟩:=zE (Sx.part (n+1) p1);rw[hq0,hq1]at H9;have Hd:l.length+(q0.length+1+q1.length)<=900000000:=by rw[H9]at hc;simp at hc;omega
 have HA:=zh (show ∀u w,IsEx W0 u p0->Wrote W0 b (l).length (l) w->Calls Tryz.prog 116 #[.pointer (some ⟨b,0,none⟩),u,.int .i64 (n)] w fun e w'=>e=.returned (.tuple #[])/\Wrote W0 b (l++q0).length (l++q0) w'/\KeepW w w' from fun u w hu hw=>by
  have:=zbyZ (ih p0 H0) (n) (by omega) (hrp p0 H0).kind.1 (hrp p0 H0).kind.2 u (l) w (hrp p0 H0) hu Hq hw (by rw[hq0];(try simp);omega);rw[hq0]at this;exact this)
 have HB:=zh (show ∀u w,IsEx W0 u p1->Wrote W0 b (l++q0++[sg]).length (l++q0++[sg]) w->Calls Tryz.prog 116 #[.pointer (some ⟨b,0,none⟩),u,.int .i64 ((n:Int)+1)] w fun e w'=>e=.returned (.tuple #[])/\Wrote W0 b (l++q0++[sg]++q1).length (l++q0++[sg]++q1) w'/\KeepW w w' from fun u w hu hw=>by
  have:=zbyZ (ih p1 H1) (n+1) (by omega) (hrp p1 H1).kind.1 (hrp p1 H1).kind.2 u (l++q0++[sg]) w (hrp p1 H1) hu Hk hw (by rw[hq1];(try simp);omega);rw[hq1]at this;exact this)
 have Hw:(l++q0).length+1<=1000000000:=by simp;omega
 obtain⟨L,hL⟩:=zE (w.heap.size);obtain⟨w2,hw2⟩:=zE (w.alloc (.cells #[.int .i64 x.pos,.int .i64 x.kind,.int .i64 x.n,.string ⟨x.s.toArray⟩,.slice At x.t.length ct,.slice An x.names.length cn,.slice (some ⟨g0,off0,none⟩) x.parts.length cp] 39));have Hh:=Live.first h #[.int .i64 x.pos,.int .i64 x.kind,.int .i64 x.n,.string ⟨x.s.toArray⟩,.slice At x.t.length ct,.slice An x.names.length cn,.slice (some ⟨g0,off0,none⟩) x.parts.length cp] 39 hw2;rw[hL]at Hh;have H2:=zh Hh;clear Hh h;have e3:((n:Int)==3)=false:=by rw[yaZ];omega
 have HK:=zh hk;have Hn:=zh Hi;have Hv:=zh Hc;have Ht:=zh H9;obtain⟨kd,hkd⟩:=zE (x.kind);rw[hkd]at HK Hn H2;clear hk Hi Hc H9 hsge hn H8 h3 Hu hsh h15 Ha Hs hq0 hq1 hpe0 hpe1 hz Hq Hk hc ih hr hrp ht hp Hd hkd H0 H1 H7 H6;go_enter Tryz.func119, Tryz.ntmps119;obtain⟨x0,x1,x2,x3,x4,x5,x6,hl1,hl2,hbl⟩:=H2.o.c7;obtain⟨dg,d0,d1,d2,d3,d4,d5,d6⟩:=He.o w2 H2.o.wr.below;obtain⟨eg,e0,e1,e2,e3,e4,e5,e6⟩:=Hg.o w2 H2.o.wr.below;go_upto_region 6 with(first | (go_at_call 136;refine(HK.o w2).mono ?_;rintro e w' ⟨rfl,rfl⟩) | (go_at_call 116;refine(HA.o _ w2 Hf.o H2.o.wr).mono ?_;rintro e w3 ⟨rfl,hW3,Hr⟩));have H3:=zh (H2.o.go oEx oEx hW3 Hr);clear hW3 Hr;clear x0 x1 x2 x3 x4 x5 x6 hl1 hl2 hbl d0 d1 d2 d3 d4 d5 d6 dg e0 e1 e2 e3 e4 e5 e6 eg;obtain⟨x0,x1,x2,x3,x4,x5,x6,hl1,hl2,hbl⟩:=H3.o.c7;obtain⟨dg,d0,d1,d2,d3,d4,d5,d6⟩:=He.o w3 H3.o.wr.below;obtain⟨eg,e0,e1,e2,e3,e4,e5,e6⟩:=Hg.o w3 H3.o.wr.below;go_upto_region 6 with fail
 have Ho:=zh H3.o.drew
 go_region_with (first | (go_at_call 137;refine(Hn.o _).mono ?_;rintro e w' ⟨rfl,rfl⟩) | (go_at_call 100;refine(Ho.o.lput1 sg Hv.o Hw).mono ?_;rintro e w4 ⟨rfl,hW4,Hp⟩))
 have H4:=zh (Ho.o.go oEx oEx hW4 Hp);clear hW4 Hp;clear x0 x1 x2 x3 x4 x5 x6 hl1 hl2 hbl d0 d1 d2 d3 d4 d5 d6 dg e0 e1 e2 e3 e4 e5 e6 eg;obtain⟨x0,x1,x2,x3,x4,x5,x6,hl1,hl2,hbl⟩:=H4.o.c7;obtain⟨dg,d0,d1,d2,d3,d4,d5,d6⟩:=He.o w4 H4.o.wr.below;obtain⟨eg,e0,e1,e2,e3,e4,e5,e6⟩:=Hg.o w4 H4.o.wr.below;go_wp2_with (go_at_call 116;refine(HB.o _ w4 Hb.o H4.o.wr).mono ?_;rintro e w5 ⟨rfl,hW5,Hm⟩);have H5:=zh (H4.o.go oEx oEx hW5 Hm);clear hW5 Hm;clear x0 x1 x2 x3 x4 x5 x6 hl1 hl2 hbl d0 d1 d2 d3 d4 d5 d6 dg e0 e1 e2 e3 e4 e5 e6 eg;go_end0;refine⟨rfl,?_,H5.o.kp⟩;rw[Ht.o];simpa[yiZ]using H5.o.wr
theorem zstZ {W0:World} {b:Nat} {x:Sx.Ex} (ih:∀p∈x.parts,ExprOk W0 b p) (h15:15<=x.kind):SidesOk W0 b x:=by
 by_cases h3:Sx.level x.kind=3
 ·exact zqbZ ih h15 h3
 ·exact zqcZ ih h15 h3
theorem zfdZ (a:Option Addr) (len cap:Nat) (w:World) (h:1<=len) :
  (Instr.slice 37 (.slice a len cap) (some (.int .i64 1)) none none).run Tryz.prog w=.ok (sliced a 1 len cap 7) w:=by
 have hs:(sizeOf (Tryz.prog.elem 37)).run Tryz.prog w=.ok 7 w:=by kernel_rfl
 rw[run_slice_l (P:= Tryz.prog) w 37 a len cap Tryz.underlying37 .i64 1 (by omega) (by omega),hs];rfl
theorem IsExs.shift {W:World} {g off:Nat} : ∀ {l:List Sx.Ex} {i:Nat},IsExs W (some ⟨g,off,none⟩) (i+1) l->IsExs W (some ⟨g,off+7,none⟩) i l
 | [],i,_=>by rw[IsExs];trivial
 | t::l,i,h=>by rw[IsExs]at h ⊢;obtain⟨⟨g',off',v0,v1,v2,v3,v4,v5,v6,hA,k0,k1,k2,k3,k4,k5,k6,ht⟩,hl⟩:=h;injection hA with hA;injection hA with e1 e2;subst e1 e2;rw[show off+(i+1) * 7=off+7+i * 7 by omega]at k0 k1 k2 k3 k4 k5 k6;exact⟨⟨g,off+7,v0,v1,v2,v3,v4,v5,v6,rfl,k0,k1,k2,k3,k4,k5,k6,ht⟩,IsExs.shift hl⟩
theorem ExRow.tail {W:World} {g off k cp:Nat} {l:List Sx.Ex} (h:ExRow W (.slice (some ⟨g,off,none⟩) k cp) l) (hl:0<l.length):ExRow W (sliced (some ⟨g,off,none⟩) 1 k cp 7) l.tail:=by
 obtain⟨A,c,hv,hc,hr⟩:=h;injection hv with e1 e2 e3;subst e1 e2 e3
 cases l with
 | nil=>simp at hl
 | cons x l=>
  rw[IsExs]at hr;refine⟨_,cp-1,by unfold sliced;rw[List.tail_cons,yhZ];rfl,by simp at hc ⊢;omega,?_⟩;rw[List.tail_cons];by_cases h1:cp=1
  ·have:l=[]:=by
    cases l with
    | nil=>rfl
    | cons y l=>simp at hc;omega
   subst this;rw[IsExs];trivial
  ·rw[if_neg h1];exact IsExs.shift hr.2
theorem zsuZ (s:Lx.Bytes) (h:s.length<=100000000):Lx.quote s≠[]/\(Lx.quote s).length<=1000000000:=⟨by unfold Lx.quote;simp,by have:=Lx.quote_len s;omega⟩
theorem zsvZ (w:World) (k:Nat) (os:Array Obj):w.grownBy (Sort.grow (w.drewN k) os) none:=zbhZ (Lib.below_grow _ _ (ybZ _) _ _)
theorem zswZ {W0:World} {b:Nat} {x:Sx.Ex} (ih:∀p∈x.parts,ExprOk W0 b p) (hG:GS W0) (hN:NG<=W0.heap.size) (hkd:x.kind=5):ExprOk W0 b x:=by
 intro v l w hr ht hz h hc;obtain⟨hsh,hrp⟩:=hr.shape;have H4:=Sx.sizeX_parts x;have H5:=Sx.textX_len x;rw[Sx.expr_eq,hkd]at hc ⊢;rw[hkd]at hsh;simp only[Int.reduceEq,ycbZ,yXZ,yjbZ,ylbZ,or_true,true_or,reduceIte,Nat.reduceEqDiff]at hc ⊢;simp[Sx.shapeX]at hsh;obtain⟨At,ct,An,cn,Ap,cp,rfl,htt,hnn,hp,hn0,hn1⟩:=ht.agg;rw[hkd];have hb:l.length+1<=1000000000:=by simp at hc;omega
 obtain⟨L,hL⟩:=zE (w.heap.size);obtain⟨w2,hw2⟩:=zE (w.alloc (.cells #[.int .i64 x.pos,.int .i64 5,.int .i64 x.n,.string ⟨x.s.toArray⟩,.slice At x.t.length ct,.slice An x.names.length cn,.slice Ap x.parts.length cp] 39));have H0:=Live.first h #[.int .i64 x.pos,.int .i64 5,.int .i64 x.n,.string ⟨x.s.toArray⟩,.slice At x.t.length ct,.slice An x.names.length cn,.slice Ap x.parts.length cp] 39 hw2;rw[hL]at H0;have H2:=zh H0;clear H0 h;clear hr ht hz hc hsh hrp H4 H5 htt hnn hp hn0 hn1 hkd ih hG hN;go_enter Tryz.func64, Tryz.ntmps64;obtain⟨x0,x1,x2,x3,x4,x5,x6,hl1,hl2,hbl⟩:=H2.o.c7;go_wp2_with (go_at_call 100;refine(H2.o.lput1 [115,101,108,102] ⟨by simp,by simp⟩ hb).mono ?_;rintro e w3 ⟨rfl,hW3,H1⟩);have H3:=zh (H2.o.go oEx oEx hW3 H1);clear hW3 H1;clear x0 x1 x2 x3 x4 x5 x6 hl1 hl2 hbl;go_end0;refine⟨rfl,?_,H3.o.kp⟩;have h9:=H3.o.wr;exact h9
theorem zsxZ {W0:World} {b:Nat} {x:Sx.Ex} (ih:∀p∈x.parts,ExprOk W0 b p) (hG:GS W0) (hN:NG<=W0.heap.size) (hkd:x.kind=4):ExprOk W0 b x:=by
 intro v l w hr ht hz h hc;obtain⟨hsh,hrp⟩:=hr.shape;have H6:=Sx.sizeX_parts x;have H8:=Sx.textX_len x;rw[Sx.expr_eq,hkd]at hc ⊢;rw[hkd]at hsh;simp only[Int.reduceEq,ycbZ,yXZ,yjbZ,ylbZ,or_true,true_or,reduceIte,Nat.reduceEqDiff]at hc ⊢;simp[Sx.shapeX]at hsh;obtain⟨At,ct,An,cn,Ap,cp,rfl,htt,hnn,hp,hn0,hn1⟩:=ht.agg;rw[hkd];have hb:l.length+1<=1000000000:=by simp at hc;omega
 have H5:x.s≠[]/\x.s.length<=1000000000:=⟨NM.ok.small _ hsh.1,by omega⟩;obtain⟨L,hL⟩:=zE (w.heap.size);obtain⟨w2,hw2⟩:=zE (w.alloc (.cells #[.int .i64 x.pos,.int .i64 4,.int .i64 x.n,.string ⟨x.s.toArray⟩,.slice At x.t.length ct,.slice An x.names.length cn,.slice Ap x.parts.length cp] 39));have H0:=Live.first h #[.int .i64 x.pos,.int .i64 4,.int .i64 x.n,.string ⟨x.s.toArray⟩,.slice At x.t.length ct,.slice An x.names.length cn,.slice Ap x.parts.length cp] 39 hw2;rw[hL]at H0;have H2:=zh H0;clear H0 h;have H7:=zh H5;clear hr ht hz hc hsh hrp H6 H8 htt hnn hp hn0 hn1 hkd ih hG hN H5;go_enter Tryz.func64, Tryz.ntmps64;obtain⟨x0,x1,x2,x3,x4,x5,x6,hl1,hl2,hbl⟩:=H2.o.c7;go_upto_region 10 with fail;have H1:=zh H2.o.drew
 go_region_with (go_at_call 100;refine(H1.o.lput1 x.s H7.o hb).mono ?_;rintro e w3 ⟨rfl,hW3,H4⟩)
 have H3:=zh (H1.o.go oEx oEx hW3 H4);clear hW3 H4;clear x0 x1 x2 x3 x4 x5 x6 hl1 hl2 hbl;go_end0;refine⟨rfl,?_,H3.o.kp⟩;have h9:=H3.o.wr;exact h9
theorem zsyZ {W0:World} {b:Nat} {x:Sx.Ex} (ih:∀p∈x.parts,ExprOk W0 b p) (hG:GS W0) (hN:NG<=W0.heap.size) (hkd:x.kind=1):ExprOk W0 b x:=by
 intro v l w hr ht hz h hc;obtain⟨hsh,hrp⟩:=hr.shape;have H9:=Sx.sizeX_parts x;have Ha:=Sx.textX_len x;rw[Sx.expr_eq,hkd]at hc ⊢;rw[hkd]at hsh;simp only[Int.reduceEq,ycbZ,yXZ,yjbZ,ylbZ,or_true,true_or,reduceIte,Nat.reduceEqDiff]at hc ⊢;simp[Sx.shapeX]at hsh;have Hc:0<=x.n:=by have:=hsh.2.1;omega
 obtain⟨At,ct,An,cn,Ap,cp,rfl,htt,hnn,hp,hn0,hn1⟩:=ht.agg;rw[hkd];have hb:l.length+1<=1000000000:=by simp at hc;omega
 obtain⟨dg,hdg⟩:=zE (SY.digits x.n);have H0:dg=Lib.decDigits x.n.toNat:=by rw[<-hdg];rfl
 have H6:dg≠[]/\dg.length<=1000000000:=by rw[H0];have h1:=Lib.decDigits_length x.n.toNat;have h2:=Lib.nDigits_pos x.n.toNat;have h3:=nD_le 19 x.n.toNat (by omega);refine⟨fun e=>?_,by omega⟩;rw[e]at h1;simp at h1;omega
 have H5:∀w',Below W0.heap.size W0 w'->Calls Tryz.prog 113 #[.int .i64 x.n] w' fun e w''=>e=.returned (.string ⟨dg.toArray⟩)/\w'.grownBy w'' none:=fun w' hb'=>
  (Tryz.strconv_Itoa x.n hn0 hn1 w' (hG.below hb').pow).mono fun e w'' ⟨he,k,os,hw⟩=>⟨by rw[he,H0];unfold Lib.itoa;rw[if_neg (by omega)],by rw[hw];exact zsvZ _ _ _⟩
 rw[hdg];obtain⟨L,hL⟩:=zE (w.heap.size);obtain⟨w2,hw2⟩:=zE (w.alloc (.cells #[.int .i64 x.pos,.int .i64 1,.int .i64 x.n,.string ⟨x.s.toArray⟩,.slice At x.t.length ct,.slice An x.names.length cn,.slice Ap x.parts.length cp] 39));have H1:=Live.first h #[.int .i64 x.pos,.int .i64 1,.int .i64 x.n,.string ⟨x.s.toArray⟩,.slice At x.t.length ct,.slice An x.names.length cn,.slice Ap x.parts.length cp] 39 hw2;rw[hL]at H1;have H2:=zh H1;clear H1 h;have Hd:=zh H6;have Hb:=zh H5;clear hr ht hz hc hsh hrp H9 Ha htt hnn hp hn0 hn1 hkd ih hG hN H6 H5 H0 hdg;go_enter Tryz.func64, Tryz.ntmps64;obtain⟨x0,x1,x2,x3,x4,x5,x6,hl1,hl2,hbl⟩:=H2.o.c7;go_upto_region 4 with fail;have H4:=zh H2.o.drew
 go_region_with (first | (go_at_call 113;refine(Hb.o _ H4.o.wr.below).mono ?_;rintro e w9 ⟨rfl,H7⟩;have HF:=zh (H4.o.grow H7);have He:=HF.o.lt;clear H7) | (go_at_call 100;refine(HF.o.lput1 dg Hd.o hb).mono ?_;rintro e w3 ⟨rfl,hW3,H8⟩))
 have H3:=zh (HF.o.go oEx oEx hW3 H8);clear hW3 H8;clear x0 x1 x2 x3 x4 x5 x6 hl1 hl2 hbl;go_end0;refine⟨rfl,?_,H3.o.kp⟩;have h9:=H3.o.wr;exact h9
theorem zszZ {W0:World} {b:Nat} {x:Sx.Ex} (ih:∀p∈x.parts,ExprOk W0 b p) (hG:GS W0) (hN:NG<=W0.heap.size) (hkd:x.kind=2):ExprOk W0 b x:=by
 intro v l w hr ht hz h hc;obtain⟨hsh,hrp⟩:=hr.shape;have H8:=Sx.sizeX_parts x;have Ha:=Sx.textX_len x;rw[Sx.expr_eq,hkd]at hc ⊢;rw[hkd]at hsh;simp only[Int.reduceEq,ycbZ,yXZ,yjbZ,ylbZ,or_true,true_or,reduceIte,Nat.reduceEqDiff]at hc ⊢;simp[Sx.shapeX]at hsh;obtain⟨At,ct,An,cn,Ap,cp,rfl,htt,hnn,hp,hn0,hn1⟩:=ht.agg;rw[hkd];have hb:l.length+1<=1000000000:=by simp at hc;omega
 obtain⟨dg,hdg⟩:=zE (SY.quote x.s);have H5:dg≠[]/\dg.length<=1000000000:=by rw[<-hdg];exact zsuZ x.s (by omega)
 have H1:∀w',Calls Tryz.prog 114 #[.string ⟨x.s.toArray⟩] w' fun e w''=>e=.returned (.string ⟨dg.toArray⟩)/\w'.grownBy w'' none:=fun w'=>
  (zleZ ⟨x.s.toArray⟩ w' (by simp[ByteArray.size];omega)).mono fun e w'' ⟨he,hb⟩=>⟨by rw[he,<-hdg];rfl,zbhZ hb⟩
 rw[hdg];obtain⟨L,hL⟩:=zE (w.heap.size);obtain⟨w2,hw2⟩:=zE (w.alloc (.cells #[.int .i64 x.pos,.int .i64 2,.int .i64 x.n,.string ⟨x.s.toArray⟩,.slice At x.t.length ct,.slice An x.names.length cn,.slice Ap x.parts.length cp] 39));have H0:=Live.first h #[.int .i64 x.pos,.int .i64 2,.int .i64 x.n,.string ⟨x.s.toArray⟩,.slice At x.t.length ct,.slice An x.names.length cn,.slice Ap x.parts.length cp] 39 hw2;rw[hL]at H0;have H2:=zh H0;clear H0 h;have Hb:=zh H5;have H9:=zh H1;clear hr ht hz hc hsh hrp H8 Ha htt hnn hp hn0 hn1 hkd ih hG hN H5 H1 hdg;go_enter Tryz.func64, Tryz.ntmps64;obtain⟨x0,x1,x2,x3,x4,x5,x6,hl1,hl2,hbl⟩:=H2.o.c7;go_upto_region 6 with fail;have H7:=zh H2.o.drew
 go_region_with (first | (go_at_call 114;refine(H9.o _).mono ?_;rintro e w9 ⟨rfl,H6⟩;have HF:=zh (H7.o.grow H6);have Hc:=HF.o.lt;clear H6) | (go_at_call 100;refine(HF.o.lput1 dg Hb.o hb).mono ?_;rintro e w3 ⟨rfl,hW3,H4⟩))
 have H3:=zh (HF.o.go oEx oEx hW3 H4);clear hW3 H4;clear x0 x1 x2 x3 x4 x5 x6 hl1 hl2 hbl;go_end0;refine⟨rfl,?_,H3.o.kp⟩;have h9:=H3.o.wr;exact h9
end Go.Proofs.YtdncljdfmdgdaaaGreatDoor
