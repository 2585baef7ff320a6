/-
  The walk of sides.
-/
import Derived.Test.YtdncljdfmdgdaaaGreatDoorM20
set_option linter.unusedSimpArgs false
set_option linter.unusedVariables false
set_option maxRecDepth 100000
set_option maxHeartbeats 8000000
namespace Go.Proofs.YtdncljdfmdgdaaaGreatDoor
open Go.RowKit Go.Shelf Go.WideMaps
theorem Sx.shape_kindX {N:Sx.Names} {k n:Int} {s:Lx.Bytes} {t:List Sx.Ty} {ns:List Lx.Bytes} {m:Nat} (h:Sx.shapeX N k n s t ns m=true):1<=k/\k<=21:=by
 unfold Sx.shapeX at h;rw[ygZ]at h;simpa using h.1
theorem Sx.okX.kind {x:Sx.Ex} (h:Sx.okX x):1<=x.kind/\x.kind<=21:=Sx.shape_kindX h.shape.1
theorem Sx.shape15 {k n:Int} {s:Lx.Bytes} {t:List Sx.Ty} {ns:List Lx.Bytes} {m:Nat} (hk:15<=k) (h:Sx.shapeX NM k n s t ns m=true):m=2:=by
 have H0:=(Sx.shape_kindX h).2;have:k=15\/k=16\/k=17\/k=18\/k=19\/k=20\/k=21:=by omega
 rcases this with rfl | rfl | rfl | rfl | rfl | rfl | rfl <;> simp[Sx.shapeX]at h <;> exact h.2.2.2.2
theorem Sx.level15 {k:Int} (h1:15<=k) (h2:k<=21):1<=Sx.level k/\Sx.level k<=5:=by
 have:k=15\/k=16\/k=17\/k=18\/k=19\/k=20\/k=21:=by omega
 rcases this with rfl | rfl | rfl | rfl | rfl | rfl | rfl <;> exact⟨by decide,by decide⟩
theorem Sx.sign_ok (k:Int):Sx.sign k≠[]/\(Sx.sign k).length<=1000000000:=by
 unfold Sx.sign
 (repeat' split) <;> exact⟨by simp,by simp⟩
def Sx.sided (x:Sx.Ex):List Lx.Bytes:=Sx.first SY (if Sx.level x.kind=3 then 4 else Sx.level x.kind) x.parts++[Sx.sign x.kind]++Sx.second SY (Sx.level x.kind+1) x.parts
def SidesOk (W0:World) (b:Nat) (x:Sx.Ex):Prop:=∀(v:Value) (l:List Lx.Bytes) (w:World),Sx.okX x->IsEx W0 v x->Sx.sizeX x<=1000000->Wrote W0 b l.length l w->l.length+(Sx.sided x).length<=900000000->
 Calls Tryz.prog 119 #[.pointer (some ⟨b,0,none⟩),v] w fun e w'=>e=.returned (.tuple #[])/\Wrote W0 b (l++Sx.sided x).length (l++Sx.sided x) w'/\KeepW w w'
theorem zqbZ {W0:World} {b:Nat} {x:Sx.Ex} (ih:∀p∈x.parts,ExprOk W0 b p) (h15:15<=x.kind) (h3:Sx.level x.kind=3):SidesOk W0 b x:=by
 intro v l w hr ht hz h hc;obtain⟨hsh,hrp⟩:=hr.shape;have Hs:=Sx.shape15 h15 hsh;have H9:=hr.kind.2;have H8:=Sx.level15 h15 H9;have Hg:=Sx.sign_ok x.kind;have Hu:=Sx.sizeX_parts x;have H6:0<x.parts.length:=by omega
 have H7:1<x.parts.length:=by omega
 obtain⟨At,ct,An,cn,Ap,cp,rfl,-,-,hp,-⟩:=ht.agg;obtain⟨g0,off0,At0,ct0,An0,cn0,Ap0,cp0,hA0,hty0,hc0⟩:=hp.spot 0 H6;obtain⟨p0,hpe0⟩:=zE (x.parts[0]'H6);have H0:p0∈x.parts:=by rw[<-hpe0];exact yfZ H6
 rw[hpe0]at hc0 hty0;have Hj:Sx.sizeX p0<=1000000:=by have:=Sx.sizeX_mem H0;omega
 have Hn:(0:Int)<(x.parts.length:Int):=by omega
 rw[yrZ,ypZ]at hc0;have Hc:=zh hc0;have Hh:=zh hty0;clear hc0 hty0;obtain⟨g1,off1,At1,ct1,An1,cn1,Ap1,cp1,hA1,hty1,hc1⟩:=hp.spot 1 H7;obtain⟨p1,hpe1⟩:=zE (x.parts[1]'H7);have H1:p1∈x.parts:=by rw[<-hpe1];exact yfZ H7
 rw[hpe1]at hc1 hty1;have Hp:Sx.sizeX p1<=1000000:=by have:=Sx.sizeX_mem H1;omega
 have Hk:(1:Int)<(x.parts.length:Int):=by omega
 rw[Nat.one_mul]at hc1;have Hf:=zh hc1;have Hi:=zh hty1;clear hc1 hty1;subst hA0;injection hA1 with hA1;injection hA1 with e1 e2;subst e1 e2;have hk:=fun w=>zhlZ x.kind w (by omega) H9;have Hb:=fun w=>zniZ x.kind w h15 H9;obtain⟨sg,hsge⟩:=zE (Sx.sign x.kind);obtain⟨n,hn⟩:=zE (Sx.level x.kind);rw[hn]at hk H8 h3;rw[hsge]at Hb Hg;have Hx:(0:Int)<=(n:Int):=by omega
 have Hy:(n:Int)<=5:=by omega
 have Ha:Sx.sided x=Sx.part (n+1) p0++[sg]++Sx.part (n+1) p1:=by unfold Sx.sided;rw[hn,hsge,Sx.first_head _ H6,Sx.second_head _ H7,hpe0,hpe1,if_pos h3];rw[h3]
 obtain⟨q0,hq0⟩:=zE (Sx.part (n+1) p0);obtain⟨q1,hq1⟩:=zE (Sx.part (n+1) p1);rw[hq0,hq1]at Ha;have Hd:l.length+(q0.length+1+q1.length)<=900000000:=by rw[Ha]at hc;simp at hc;omega
 have HA:=zh (show ∀u w,IsEx W0 u p0->Wrote W0 b (l).length (l) w->Calls Tryz.prog 116 #[.pointer (some ⟨b,0,none⟩),u,.int .i64 ((n:Int)+1)] w fun e w'=>e=.returned (.tuple #[])/\Wrote W0 b (l++q0).length (l++q0) w'/\KeepW w w' from fun u w hu hw=>by
  have:=zbyZ (ih p0 H0) (n+1) (by omega) (hrp p0 H0).kind.1 (hrp p0 H0).kind.2 u (l) w (hrp p0 H0) hu Hj hw (by rw[hq0];(try simp);omega);rw[hq0]at this
  exact this)
 have HB:=zh (show ∀u w,IsEx W0 u p1->Wrote W0 b (l++q0++[sg]).length (l++q0++[sg]) w->Calls Tryz.prog 116 #[.pointer (some ⟨b,0,none⟩),u,.int .i64 ((n:Int)+1)] w fun e w'=>e=.returned (.tuple #[])/\Wrote W0 b (l++q0++[sg]++q1).length (l++q0++[sg]++q1) w'/\KeepW w w' from fun u w hu hw=>by
  have:=zbyZ (ih p1 H1) (n+1) (by omega) (hrp p1 H1).kind.1 (hrp p1 H1).kind.2 u (l++q0++[sg]) w (hrp p1 H1) hu Hp hw (by rw[hq1];(try simp);omega);rw[hq1]at this
  exact this)
 have Hv:(l++q0).length+1<=1000000000:=by simp;omega
 obtain⟨L,hL⟩:=zE (w.heap.size);obtain⟨w2,hw2⟩:=zE (w.alloc (.cells #[.int .i64 x.pos,.int .i64 x.kind,.int .i64 x.n,.string ⟨x.s.toArray⟩,.slice At x.t.length ct,.slice An x.names.length cn,.slice (some ⟨g0,off0,none⟩) x.parts.length cp] 39));have He:=Live.first h #[.int .i64 x.pos,.int .i64 x.kind,.int .i64 x.n,.string ⟨x.s.toArray⟩,.slice At x.t.length ct,.slice An x.names.length cn,.slice (some ⟨g0,off0,none⟩) x.parts.length cp] 39 hw2;rw[hL]at He;have H2:=zh He;clear He h;have e3:((n:Int)==3)=true:=by rw[ytZ];omega
 have HK:=zh hk;have Hr:=zh Hb;have Ht:=zh Hg;have Hw:=zh Ha;obtain⟨kd,hkd⟩:=zE (x.kind);rw[hkd]at HK Hr H2;clear hk Hb Hg Ha hsge hn H8 h3 Hs hsh h15 H9 Hu hq0 hq1 hpe0 hpe1 hz Hj Hp hc ih hr hrp ht hp Hd hkd H0 H1 H6 H7;go_enter Tryz.func119, Tryz.ntmps119;obtain⟨x0,x1,x2,x3,x4,x5,x6,hl1,hl2,hbl⟩:=H2.o.c7;obtain⟨dg,d0,d1,d2,d3,d4,d5,d6⟩:=Hc.o w2 H2.o.wr.below;obtain⟨eg,e0,e1,e2,e3,e4,e5,e6⟩:=Hf.o w2 H2.o.wr.below;go_upto_region 6 with(first | (go_at_call 136;refine(HK.o w2).mono ?_;rintro e w' ⟨rfl,rfl⟩) | (go_at_call 116;refine(HA.o _ w2 Hh.o H2.o.wr).mono ?_;rintro e w3 ⟨rfl,hW3,Ho⟩));have H3:=zh (H2.o.go oEx oEx hW3 Ho);clear hW3 Ho;clear x0 x1 x2 x3 x4 x5 x6 hl1 hl2 hbl d0 d1 d2 d3 d4 d5 d6 dg e0 e1 e2 e3 e4 e5 e6 eg;obtain⟨x0,x1,x2,x3,x4,x5,x6,hl1,hl2,hbl⟩:=H3.o.c7;obtain⟨dg,d0,d1,d2,d3,d4,d5,d6⟩:=Hc.o w3 H3.o.wr.below;obtain⟨eg,e0,e1,e2,e3,e4,e5,e6⟩:=Hf.o w3 H3.o.wr.below;go_upto_region 6 with fail
 have Hq:=zh H3.o.drew
 go_region_with (first | (go_at_call 137;refine(Hr.o _).mono ?_;rintro e w' ⟨rfl,rfl⟩) | (go_at_call 100;refine(Hq.o.lput1 sg Ht.o Hv).mono ?_;rintro e w4 ⟨rfl,hW4,Hl⟩))
 have H4:=zh (Hq.o.go oEx oEx hW4 Hl);clear hW4 Hl;clear x0 x1 x2 x3 x4 x5 x6 hl1 hl2 hbl d0 d1 d2 d3 d4 d5 d6 dg e0 e1 e2 e3 e4 e5 e6 eg;obtain⟨x0,x1,x2,x3,x4,x5,x6,hl1,hl2,hbl⟩:=H4.o.c7;obtain⟨dg,d0,d1,d2,d3,d4,d5,d6⟩:=Hc.o w4 H4.o.wr.below;obtain⟨eg,e0,e1,e2,e3,e4,e5,e6⟩:=Hf.o w4 H4.o.wr.below;go_wp2_with (go_at_call 116;refine(HB.o _ w4 Hi.o H4.o.wr).mono ?_;rintro e w5 ⟨rfl,hW5,Hm⟩);have H5:=zh (H4.o.go oEx oEx hW5 Hm);clear hW5 Hm;clear x0 x1 x2 x3 x4 x5 x6 hl1 hl2 hbl d0 d1 d2 d3 d4 d5 d6 dg e0 e1 e2 e3 e4 e5 e6 eg;go_end0;refine⟨rfl,?_,H5.o.kp⟩;rw[Hw.o];simpa[yiZ]using H5.o.wr
theorem zqcZ {W0:World} {b:Nat} {x:Sx.Ex} (ih:∀p∈x.parts,ExprOk W0 b p) (h15:15<=x.kind) (h3:¬Sx.level x.kind=3):SidesOk W0 b x:=by
 intro v l w hr ht hz h hc;obtain⟨hsh,hrp⟩:=hr.shape;have Hs:=Sx.shape15 h15 hsh;have H9:=hr.kind.2;have H8:=Sx.level15 h15 H9;have Hg:=Sx.sign_ok x.kind;have Hu:=Sx.sizeX_parts x;have H6:0<x.parts.length:=by omega
 have H7:1<x.parts.length:=by omega
 obtain⟨At,ct,An,cn,Ap,cp,rfl,-,-,hp,-⟩:=ht.agg;obtain⟨g0,off0,At0,ct0,An0,cn0,Ap0,cp0,hA0,hty0,hc0⟩:=hp.spot 0 H6;obtain⟨p0,hpe0⟩:=zE (x.parts[0]'H6);have H0:p0∈x.parts:=by rw[<-hpe0];exact yfZ H6
 rw[hpe0]at hc0 hty0;have Hj:Sx.sizeX p0<=1000000:=by have:=Sx.sizeX_mem H0;omega
 have Hn:(0:Int)<(x.parts.length:Int):=by omega
 rw[yrZ,ypZ]at hc0;have Hc:=zh hc0;have Hh:=zh hty0;clear hc0 hty0;obtain⟨g1,off1,At1,ct1,An1,cn1,Ap1,cp1,hA1,hty1,hc1⟩:=hp.spot 1 H7;obtain⟨p1,hpe1⟩:=zE (x.parts[1]'H7);have H1:p1∈x.parts:=by rw[<-hpe1];exact yfZ H7
 rw[hpe1]at hc1 hty1;have Hp:Sx.sizeX p1<=1000000:=by have:=Sx.sizeX_mem H1;omega
 have Hk:(1:Int)<(x.parts.length:Int):=by omega
 rw[Nat.one_mul]at hc1;have Hf:=zh hc1;have Hi:=zh hty1;clear hc1 hty1;subst hA0;injection hA1 with hA1;injection hA1 with e1 e2;subst e1 e2;have hk:=fun w=>zhlZ x.kind w (by omega) H9;have Hb:=fun w=>zniZ x.kind w h15 H9;obtain⟨sg,hsge⟩:=zE (Sx.sign x.kind);obtain⟨n,hn⟩:=zE (Sx.level x.kind);rw[hn]at hk H8 h3;rw[hsge]at Hb Hg;have Hx:(0:Int)<=(n:Int):=by omega
 have Hy:(n:Int)<=5:=by omega
 have Ha:Sx.sided x=Sx.part (n) p0++[sg]++Sx.part (n+1) p1:=by unfold Sx.sided;rw[hn,hsge,Sx.first_head _ H6,Sx.second_head _ H7,hpe0,hpe1,if_neg h3]
 obtain⟨q0,hq0⟩:=zE (Sx.part (n) p0);obtain⟨q1,hq1⟩:=zE (Sx.part (n+1) p1);rw[hq0,hq1]at Ha;have Hd:l.length+(q0.length+1+q1.length)<=900000000:=by rw[Ha]at hc;simp at hc;omega
 have HA:=zh (show ∀u w,IsEx W0 u p0->Wrote W0 b (l).length (l) w->Calls Tryz.prog 116 #[.pointer (some ⟨b,0,none⟩),u,.int .i64 (n)] w fun e w'=>e=.returned (.tuple #[])/\Wrote W0 b (l++q0).length (l++q0) w'/\KeepW w w' from fun u w hu hw=>by
  have:=zbyZ (ih p0 H0) (n) (by omega) (hrp p0 H0).kind.1 (hrp p0 H0).kind.2 u (l) w (hrp p0 H0) hu Hj hw (by rw[hq0];(try simp);omega);rw[hq0]at this
  exact this)
 have HB:=zh (show ∀u w,IsEx W0 u p1->Wrote W0 b (l++q0++[sg]).length (l++q0++[sg]) w->Calls Tryz.prog 116 #[.pointer (some ⟨b,0,none⟩),u,.int .i64 ((n:Int)+1)] w fun e w'=>e=.returned (.tuple #[])/\Wrote W0 b (l++q0++[sg]++q1).length (l++q0++[sg]++q1) w'/\KeepW w w' from fun u w hu hw=>by
  have:=zbyZ (ih p1 H1) (n+1) (by omega) (hrp p1 H1).kind.1 (hrp p1 H1).kind.2 u (l++q0++[sg]) w (hrp p1 H1) hu Hp hw (by rw[hq1];(try simp);omega);rw[hq1]at this
  exact this)
 have Hv:(l++q0).length+1<=1000000000:=by simp;omega
 obtain⟨L,hL⟩:=zE (w.heap.size);obtain⟨w2,hw2⟩:=zE (w.alloc (.cells #[.int .i64 x.pos,.int .i64 x.kind,.int .i64 x.n,.string ⟨x.s.toArray⟩,.slice At x.t.length ct,.slice An x.names.length cn,.slice (some ⟨g0,off0,none⟩) x.parts.length cp] 39));have He:=Live.first h #[.int .i64 x.pos,.int .i64 x.kind,.int .i64 x.n,.string ⟨x.s.toArray⟩,.slice At x.t.length ct,.slice An x.names.length cn,.slice (some ⟨g0,off0,none⟩) x.parts.length cp] 39 hw2;rw[hL]at He;have H2:=zh He;clear He h;have e3:((n:Int)==3)=false:=by rw[yaZ];omega
 have HK:=zh hk;have Hr:=zh Hb;have Ht:=zh Hg;have Hw:=zh Ha;obtain⟨kd,hkd⟩:=zE (x.kind);rw[hkd]at HK Hr H2;clear hk Hb Hg Ha hsge hn H8 h3 Hs hsh h15 H9 Hu hq0 hq1 hpe0 hpe1 hz Hj Hp hc ih hr hrp ht hp Hd hkd H0 H1 H6 H7;go_enter Tryz.func119, Tryz.ntmps119;obtain⟨x0,x1,x2,x3,x4,x5,x6,hl1,hl2,hbl⟩:=H2.o.c7;obtain⟨dg,d0,d1,d2,d3,d4,d5,d6⟩:=Hc.o w2 H2.o.wr.below;obtain⟨eg,e0,e1,e2,e3,e4,e5,e6⟩:=Hf.o w2 H2.o.wr.below;go_upto_region 6 with(first | (go_at_call 136;refine(HK.o w2).mono ?_;rintro e w' ⟨rfl,rfl⟩) | (go_at_call 116;refine(HA.o _ w2 Hh.o H2.o.wr).mono ?_;rintro e w3 ⟨rfl,hW3,Ho⟩));have H3:=zh (H2.o.go oEx oEx hW3 Ho);clear hW3 Ho;clear x0 x1 x2 x3 x4 x5 x6 hl1 hl2 hbl d0 d1 d2 d3 d4 d5 d6 dg e0 e1 e2 e3 e4 e5 e6 eg;obtain⟨x0,x1,x2,x3,x4,x5,x6,hl1,hl2,hbl⟩:=H3.o.c7;obtain⟨dg,d0,d1,d2,d3,d4,d5,d6⟩:=Hc.o w3 H3.o.wr.below;obtain⟨eg,e0,e1,e2,e3,e4,e5,e6⟩:=Hf.o w3 H3.o.wr.below;go_upto_region 6 with fail
 have Hq:=zh H3.o.drew
 go_region_with (first | (go_at_call 137;refine(Hr.o _).mono ?_;rintro e w' ⟨rfl,rfl⟩) | (go_at_call 100;refine(Hq.o.lput1 sg Ht.o Hv).mono ?_;rintro e w4 ⟨rfl,hW4,Hl⟩))
 have H4:=zh (Hq.o.go oEx oEx hW4 Hl);clear hW4 Hl;clear x0 x1 x2 x3 x4 x5 x6 hl1 hl2 hbl d0 d1 d2 d3 d4 d5 d6 dg e0 e1 e2 e3 e4 e5 e6 eg;obtain⟨x0,x1,x2,x3,x4,x5,x6,hl1,hl2,hbl⟩:=H4.o.c7;obtain⟨dg,d0,d1,d2,d3,d4,d5,d6⟩:=Hc.o w4 H4.o.wr.below;obtain⟨eg,e0,e1,e2,e3,e4,e5,e6⟩:=Hf.o w4 H4.o.wr.below;go_wp2_with (go_at_call 116;refine(HB.o _ w4 Hi.o H4.o.wr).mono ?_;rintro e w5 ⟨rfl,hW5,Hm⟩);have H5:=zh (H4.o.go oEx oEx hW5 Hm);clear hW5 Hm;clear x0 x1 x2 x3 x4 x5 x6 hl1 hl2 hbl d0 d1 d2 d3 d4 d5 d6 dg e0 e1 e2 e3 e4 e5 e6 eg;go_end0;refine⟨rfl,?_,H5.o.kp⟩;rw[Hw.o];simpa[yiZ]using H5.o.wr
theorem zstZ {W0:World} {b:Nat} {x:Sx.Ex} (ih:∀p∈x.parts,ExprOk W0 b p) (h15:15<=x.kind):SidesOk W0 b x:=by
 by_cases h3:Sx.level x.kind=3
 ·exact zqbZ ih h15 h3
 ·exact zqcZ ih h15 h3
end Go.Proofs.YtdncljdfmdgdaaaGreatDoor
