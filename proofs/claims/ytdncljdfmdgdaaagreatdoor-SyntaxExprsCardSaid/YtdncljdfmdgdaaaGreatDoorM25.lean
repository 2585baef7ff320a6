/-
  The walk of sides.
-/
import Derived.Test.YtdncljdfmdgdaaaGreatDoorM1
import Derived.Test.YtdncljdfmdgdaaaGreatDoorM21
import Derived.Test.YtdncljdfmdgdaaaGreatDoorM24
set_option linter.unusedSimpArgs false
set_option linter.unusedVariables false
set_option maxRecDepth 100000
set_option maxHeartbeats 8000000
namespace Go.Proofs.YtdncljdfmdgdaaaGreatDoor
open Go.RowKit Go.Shelf Go.WideMaps
theorem Sx.shape_kindX {N:Sx.Names} {k n:Int} {s:Lx.Bytes} {t:List Sx.Ty} {ns:List Lx.Bytes} {m:Nat} (h:Sx.shapeX N k n s t ns m=true):1≤k∧k≤21:=by
 unfold Sx.shapeX at h
 rw[Bool.and_eq_true]at h
 simpa using h.1
theorem Sx.okX.kind {x:Sx.Ex} (h:Sx.okX x):1≤x.kind∧x.kind≤21:=Sx.shape_kindX h.shape.1
theorem Sx.shape15 {k n:Int} {s:Lx.Bytes} {t:List Sx.Ty} {ns:List Lx.Bytes} {m:Nat} (hk:15≤k) (h:Sx.shapeX NM k n s t ns m=true):m=2:=by
 have H0:=(Sx.shape_kindX h).2
 have:k=15∨k=16∨k=17∨k=18∨k=19∨k=20∨k=21:=by omega
 rcases this with rfl | rfl | rfl | rfl | rfl | rfl | rfl <;> simp[Sx.shapeX]at h <;> exact h.2.2.2.2
theorem Sx.level15 {k:Int} (h1:15≤k) (h2:k≤21):1≤Sx.level k∧Sx.level k≤5:=by
 have:k=15∨k=16∨k=17∨k=18∨k=19∨k=20∨k=21:=by omega
 rcases this with rfl | rfl | rfl | rfl | rfl | rfl | rfl <;> exact⟨by decide,by decide⟩
theorem Sx.sign_ok (k:Int):Sx.sign k≠[]∧(Sx.sign k).length≤1000000000:=by
 unfold Sx.sign
 (repeat' split) <;> exact⟨by simp,by simp⟩
def Sx.sided (x:Sx.Ex):List Lx.Bytes:=Sx.first SY (if Sx.level x.kind=3 then 4 else Sx.level x.kind) x.parts++[Sx.sign x.kind]++Sx.second SY (Sx.level x.kind+1) x.parts
def SidesOk (W0:World) (b:Nat) (x:Sx.Ex):Prop:=∀(v:Value) (l:List Lx.Bytes) (w:World),Sx.okX x→IsEx W0 v x→Sx.sizeX x≤1000000→Wrote W0 b l.length l w→l.length+(Sx.sided x).length≤900000000→
 Calls Tryz.prog 119 #[.pointer (some ⟨b,0,none⟩),v] w fun e w'=>e=.returned (.tuple #[])∧Wrote W0 b (l++Sx.sided x).length (l++Sx.sided x) w'∧KeepW w w'
theorem zovZ {W0:World} {b:Nat} {x:Sx.Ex} (ih:∀p∈x.parts,ExprOk W0 b p) (h15:15≤x.kind) (h3:Sx.level x.kind=3):SidesOk W0 b x:=by
 intro v l w hr ht hz h hc
 obtain⟨hsh,hrp⟩:=hr.shape
 have Hv:=Sx.shape15 h15 hsh
 have H9:=hr.kind.2
 have H8:=Sx.level15 h15 H9
 have Hb:=Sx.sign_ok x.kind
 have Ht:=Sx.sizeX_parts x
 have H7:0<x.parts.length:=by omega
 have H6:1<x.parts.length:=by omega
 obtain⟨At,ct,An,cn,Ap,cp,rfl,-,-,hp,-⟩:=ht.agg
 obtain⟨g0,off0,At0,ct0,An0,cn0,Ap0,cp0,hA0,hty0,hc0⟩:=hp.spot 0 H7
 obtain⟨p0,hpe0⟩:=zE (x.parts[0]'H7)
 have H0:p0∈x.parts:=by rw[←hpe0];exact List.getElem_mem H7
 rw[hpe0]at hc0 hty0
 have Hm:Sx.sizeX p0≤1000000:=by have:=Sx.sizeX_mem H0;omega
 have Hl:(0:Int)<(x.parts.length:Int):=by omega
 have Hc:=zh hc0
 have Hf:=zh hty0
 clear hc0 hty0
 obtain⟨g1,off1,At1,ct1,An1,cn1,Ap1,cp1,hA1,hty1,hc1⟩:=hp.spot 1 H6
 obtain⟨p1,hpe1⟩:=zE (x.parts[1]'H6)
 have H1:p1∈x.parts:=by rw[←hpe1];exact List.getElem_mem H6
 rw[hpe1]at hc1 hty1
 have Hj:Sx.sizeX p1≤1000000:=by have:=Sx.sizeX_mem H1;omega
 have Hk:(1:Int)<(x.parts.length:Int):=by omega
 have Hd:=zh hc1
 have Hi:=zh hty1
 clear hc1 hty1
 subst hA0
 injection hA1 with hA1
 injection hA1 with e1 e2
 subst e1 e2
 have hk:=fun w=>zgnZ x.kind w (by omega) H9
 have He:=fun w=>zmgZ x.kind w h15 H9
 obtain⟨sg,hsge⟩:=zE (Sx.sign x.kind)
 obtain⟨n,hn⟩:=zE (Sx.level x.kind)
 rw[hn]at hk H8 h3
 rw[hsge]at He Hb
 have Hx:(0:Int)≤(n:Int):=by omega
 have Hy:(n:Int)≤5:=by omega
 have Ha:Sx.sided x=Sx.part (n+1) p0++[sg]++Sx.part (n+1) p1:=by
  unfold Sx.sided
  rw[hn,hsge,Sx.first_head _ H7,Sx.second_head _ H6,hpe0,hpe1,if_pos h3]
  rw[h3]
 obtain⟨q0,hq0⟩:=zE (Sx.part (n+1) p0)
 obtain⟨q1,hq1⟩:=zE (Sx.part (n+1) p1)
 rw[hq0,hq1]at Ha
 have Hg:l.length+(q0.length+1+q1.length)≤900000000:=by rw[Ha]at hc;simp at hc;omega
 have HA:=zh (show ∀u w,IsEx W0 u p0→Wrote W0 b (l).length (l) w→Calls Tryz.prog 116 #[.pointer (some ⟨b,0,none⟩),u,.int .i64 ((n:Int)+1)] w fun e w'=>e=.returned (.tuple #[])∧Wrote W0 b (l++q0).length (l++q0) w'∧KeepW w w' from fun u w hu hw=>by
  have:=zbvZ (ih p0 H0) (n+1) (by omega) (hrp p0 H0).kind.1 (hrp p0 H0).kind.2 u (l) w (hrp p0 H0) hu Hm hw (by rw[hq0];(try simp);omega)
  rw[hq0]at this
  exact this)
 have HB:=zh (show ∀u w,IsEx W0 u p1→Wrote W0 b (l++q0++[sg]).length (l++q0++[sg]) w→Calls Tryz.prog 116 #[.pointer (some ⟨b,0,none⟩),u,.int .i64 ((n:Int)+1)] w fun e w'=>e=.returned (.tuple #[])∧Wrote W0 b (l++q0++[sg]++q1).length (l++q0++[sg]++q1) w'∧KeepW w w' from fun u w hu hw=>by
  have:=zbvZ (ih p1 H1) (n+1) (by omega) (hrp p1 H1).kind.1 (hrp p1 H1).kind.2 u (l++q0++[sg]) w (hrp p1 H1) hu Hj hw (by rw[hq1];(try simp);omega)
  rw[hq1]at this
  exact this)
 have Hs:(l++q0).length+1≤1000000000:=by simp;omega
 obtain⟨L,hL⟩:=zE (w.heap.size)
 obtain⟨w2,hw2⟩:=zE (w.alloc (.cells #[.int .i64 x.pos,.int .i64 x.kind,.int .i64 x.n,.string ⟨x.s.toArray⟩,.slice At x.t.length ct,.slice An x.names.length cn,.slice (some ⟨g0,off0,none⟩) x.parts.length cp] 39))
 have Hh:=Live.first h #[.int .i64 x.pos,.int .i64 x.kind,.int .i64 x.n,.string ⟨x.s.toArray⟩,.slice At x.t.length ct,.slice An x.names.length cn,.slice (some ⟨g0,off0,none⟩) x.parts.length cp] 39 hw2
 rw[hL]at Hh
 have H2:=zh Hh
 clear Hh h
 have e3:((n:Int)==3)=true:=by rw[beq_iff_eq];omega
 have HK:=zh hk
 have Ho:=zh He
 have Hw:=zh Hb
 have Hu:=zh Ha
 obtain⟨kd,hkd⟩:=zE (x.kind)
 rw[hkd]at HK Ho H2
 clear hk He Hb Ha hsge hn H8 h3 Hv hsh h15 H9 Ht hq0 hq1 hpe0 hpe1 hz Hm Hj hc ih hr hrp ht hp Hg hkd H0 H1 H7 H6
 go_enter Tryz.func119, Tryz.ntmps119
 obtain⟨x0,x1,x2,x3,x4,x5,x6⟩:=zbZ H2.o.b1
 obtain⟨hl1,hl2,hbl⟩:=H2.o.lt
 obtain⟨dg,d0,d1,d2,d3,d4,d5,d6⟩:=Hc.o w2 H2.o.wr.below
 rw[Nat.zero_mul,Nat.add_zero]at d0 d1 d2 d3 d4 d5 d6
 obtain⟨eg,e0,e1,e2,e3,e4,e5,e6⟩:=Hd.o w2 H2.o.wr.below
 rw[Nat.one_mul]at e0 e1 e2 e3 e4 e5 e6
 go_upto_region 6 with(first | (go_at_call 136;refine(HK.o w2).mono ?_;rintro e w' ⟨rfl,rfl⟩) | (go_at_call 116;refine(HA.o _ w2 Hf.o H2.o.wr).mono ?_;rintro e w3 ⟨rfl,hW3,Hn⟩))
 have H3:=zh (H2.o.go oEx oEx hW3 Hn)
 clear hW3 Hn
 clear x0 x1 x2 x3 x4 x5 x6 hl1 hl2 hbl d0 d1 d2 d3 d4 d5 d6 dg e0 e1 e2 e3 e4 e5 e6 eg
 obtain⟨x0,x1,x2,x3,x4,x5,x6⟩:=zbZ H3.o.b1
 obtain⟨hl1,hl2,hbl⟩:=H3.o.lt
 obtain⟨dg,d0,d1,d2,d3,d4,d5,d6⟩:=Hc.o w3 H3.o.wr.below
 rw[Nat.zero_mul,Nat.add_zero]at d0 d1 d2 d3 d4 d5 d6
 obtain⟨eg,e0,e1,e2,e3,e4,e5,e6⟩:=Hd.o w3 H3.o.wr.below
 rw[Nat.one_mul]at e0 e1 e2 e3 e4 e5 e6
 go_upto_region 6 with fail
 have Hq:=zh H3.o.drew
 go_region_with (first | (go_at_call 137;refine(Ho.o _).mono ?_;rintro e w' ⟨rfl,rfl⟩) | (go_at_call 100;refine(Hq.o.lput1 sg Hw.o Hs).mono ?_;rintro e w4 ⟨rfl,hW4,Hp⟩))
 have H4:=zh (Hq.o.go oEx oEx hW4 Hp)
 clear hW4 Hp
 clear x0 x1 x2 x3 x4 x5 x6 hl1 hl2 hbl d0 d1 d2 d3 d4 d5 d6 dg e0 e1 e2 e3 e4 e5 e6 eg
 obtain⟨x0,x1,x2,x3,x4,x5,x6⟩:=zbZ H4.o.b1
 obtain⟨hl1,hl2,hbl⟩:=H4.o.lt
 obtain⟨dg,d0,d1,d2,d3,d4,d5,d6⟩:=Hc.o w4 H4.o.wr.below
 rw[Nat.zero_mul,Nat.add_zero]at d0 d1 d2 d3 d4 d5 d6
 obtain⟨eg,e0,e1,e2,e3,e4,e5,e6⟩:=Hd.o w4 H4.o.wr.below
 rw[Nat.one_mul]at e0 e1 e2 e3 e4 e5 e6
 go_wp2_with (go_at_call 116;refine(HB.o _ w4 Hi.o H4.o.wr).mono ?_;rintro e w5 ⟨rfl,hW5,Hr⟩)
 have H5:=zh (H4.o.go oEx oEx hW5 Hr)
 clear hW5 Hr
 clear x0 x1 x2 x3 x4 x5 x6 hl1 hl2 hbl d0 d1 d2 d3 d4 d5 d6 dg e0 e1 e2 e3 e4 e5 e6 eg
 go_end0
 refine⟨rfl,?_,H5.o.kp⟩
 rw[Hu.o]
 simpa[List.append_assoc]using H5.o.wr
theorem zowZ {W0:World} {b:Nat} {x:Sx.Ex} (ih:∀p∈x.parts,ExprOk W0 b p) (h15:15≤x.kind) (h3:¬Sx.level x.kind=3):SidesOk W0 b x:=by
 intro v l w hr ht hz h hc
 obtain⟨hsh,hrp⟩:=hr.shape
 have Hv:=Sx.shape15 h15 hsh
 have H9:=hr.kind.2
 have H8:=Sx.level15 h15 H9
 have Hb:=Sx.sign_ok x.kind
 have Ht:=Sx.sizeX_parts x
 have H7:0<x.parts.length:=by omega
 have H6:1<x.parts.length:=by omega
 obtain⟨At,ct,An,cn,Ap,cp,rfl,-,-,hp,-⟩:=ht.agg
 obtain⟨g0,off0,At0,ct0,An0,cn0,Ap0,cp0,hA0,hty0,hc0⟩:=hp.spot 0 H7
 obtain⟨p0,hpe0⟩:=zE (x.parts[0]'H7)
 have H0:p0∈x.parts:=by rw[←hpe0];exact List.getElem_mem H7
 rw[hpe0]at hc0 hty0
 have Hm:Sx.sizeX p0≤1000000:=by have:=Sx.sizeX_mem H0;omega
 have Hl:(0:Int)<(x.parts.length:Int):=by omega
 have Hc:=zh hc0
 have Hf:=zh hty0
 clear hc0 hty0
 obtain⟨g1,off1,At1,ct1,An1,cn1,Ap1,cp1,hA1,hty1,hc1⟩:=hp.spot 1 H6
 obtain⟨p1,hpe1⟩:=zE (x.parts[1]'H6)
 have H1:p1∈x.parts:=by rw[←hpe1];exact List.getElem_mem H6
 rw[hpe1]at hc1 hty1
 have Hj:Sx.sizeX p1≤1000000:=by have:=Sx.sizeX_mem H1;omega
 have Hk:(1:Int)<(x.parts.length:Int):=by omega
 have Hd:=zh hc1
 have Hi:=zh hty1
 clear hc1 hty1
 subst hA0
 injection hA1 with hA1
 injection hA1 with e1 e2
 subst e1 e2
 have hk:=fun w=>zgnZ x.kind w (by omega) H9
 have He:=fun w=>zmgZ x.kind w h15 H9
 obtain⟨sg,hsge⟩:=zE (Sx.sign x.kind)
 obtain⟨n,hn⟩:=zE (Sx.level x.kind)
 rw[hn]at hk H8 h3
 rw[hsge]at He Hb
 have Hx:(0:Int)≤(n:Int):=by omega
 have Hy:(n:Int)≤5:=by omega
 have Ha:Sx.sided x=Sx.part (n) p0++[sg]++Sx.part (n+1) p1:=by
  unfold Sx.sided
  rw[hn,hsge,Sx.first_head _ H7,Sx.second_head _ H6,hpe0,hpe1,if_neg h3]
 obtain⟨q0,hq0⟩:=zE (Sx.part (n) p0)
 obtain⟨q1,hq1⟩:=zE (Sx.part (n+1) p1)
 rw[hq0,hq1]at Ha
 have Hg:l.length+(q0.length+1+q1.length)≤900000000:=by rw[Ha]at hc;simp at hc;omega
 have HA:=zh (show ∀u w,IsEx W0 u p0→Wrote W0 b (l).length (l) w→Calls Tryz.prog 116 #[.pointer (some ⟨b,0,none⟩),u,.int .i64 (n)] w fun e w'=>e=.returned (.tuple #[])∧Wrote W0 b (l++q0).length (l++q0) w'∧KeepW w w' from fun u w hu hw=>by
  have:=zbvZ (ih p0 H0) (n) (by omega) (hrp p0 H0).kind.1 (hrp p0 H0).kind.2 u (l) w (hrp p0 H0) hu Hm hw (by rw[hq0];(try simp);omega)
  rw[hq0]at this
  exact this)
 have HB:=zh (show ∀u w,IsEx W0 u p1→Wrote W0 b (l++q0++[sg]).length (l++q0++[sg]) w→Calls Tryz.prog 116 #[.pointer (some ⟨b,0,none⟩),u,.int .i64 ((n:Int)+1)] w fun e w'=>e=.returned (.tuple #[])∧Wrote W0 b (l++q0++[sg]++q1).length (l++q0++[sg]++q1) w'∧KeepW w w' from fun u w hu hw=>by
  have:=zbvZ (ih p1 H1) (n+1) (by omega) (hrp p1 H1).kind.1 (hrp p1 H1).kind.2 u (l++q0++[sg]) w (hrp p1 H1) hu Hj hw (by rw[hq1];(try simp);omega)
  rw[hq1]at this
  exact this)
 have Hs:(l++q0).length+1≤1000000000:=by simp;omega
 obtain⟨L,hL⟩:=zE (w.heap.size)
 obtain⟨w2,hw2⟩:=zE (w.alloc (.cells #[.int .i64 x.pos,.int .i64 x.kind,.int .i64 x.n,.string ⟨x.s.toArray⟩,.slice At x.t.length ct,.slice An x.names.length cn,.slice (some ⟨g0,off0,none⟩) x.parts.length cp] 39))
 have Hh:=Live.first h #[.int .i64 x.pos,.int .i64 x.kind,.int .i64 x.n,.string ⟨x.s.toArray⟩,.slice At x.t.length ct,.slice An x.names.length cn,.slice (some ⟨g0,off0,none⟩) x.parts.length cp] 39 hw2
 rw[hL]at Hh
 have H2:=zh Hh
 clear Hh h
 have e3:((n:Int)==3)=false:=by rw[beq_eq_false_iff_ne];omega
 have HK:=zh hk
 have Ho:=zh He
 have Hw:=zh Hb
 have Hu:=zh Ha
 obtain⟨kd,hkd⟩:=zE (x.kind)
 rw[hkd]at HK Ho H2
 clear hk He Hb Ha hsge hn H8 h3 Hv hsh h15 H9 Ht hq0 hq1 hpe0 hpe1 hz Hm Hj hc ih hr hrp ht hp Hg hkd H0 H1 H7 H6
 go_enter Tryz.func119, Tryz.ntmps119
 obtain⟨x0,x1,x2,x3,x4,x5,x6⟩:=zbZ H2.o.b1
 obtain⟨hl1,hl2,hbl⟩:=H2.o.lt
 obtain⟨dg,d0,d1,d2,d3,d4,d5,d6⟩:=Hc.o w2 H2.o.wr.below
 rw[Nat.zero_mul,Nat.add_zero]at d0 d1 d2 d3 d4 d5 d6
 obtain⟨eg,e0,e1,e2,e3,e4,e5,e6⟩:=Hd.o w2 H2.o.wr.below
 rw[Nat.one_mul]at e0 e1 e2 e3 e4 e5 e6
 go_upto_region 6 with(first | (go_at_call 136;refine(HK.o w2).mono ?_;rintro e w' ⟨rfl,rfl⟩) | (go_at_call 116;refine(HA.o _ w2 Hf.o H2.o.wr).mono ?_;rintro e w3 ⟨rfl,hW3,Hn⟩))
 have H3:=zh (H2.o.go oEx oEx hW3 Hn)
 clear hW3 Hn
 clear x0 x1 x2 x3 x4 x5 x6 hl1 hl2 hbl d0 d1 d2 d3 d4 d5 d6 dg e0 e1 e2 e3 e4 e5 e6 eg
 obtain⟨x0,x1,x2,x3,x4,x5,x6⟩:=zbZ H3.o.b1
 obtain⟨hl1,hl2,hbl⟩:=H3.o.lt
 obtain⟨dg,d0,d1,d2,d3,d4,d5,d6⟩:=Hc.o w3 H3.o.wr.below
 rw[Nat.zero_mul,Nat.add_zero]at d0 d1 d2 d3 d4 d5 d6
 obtain⟨eg,e0,e1,e2,e3,e4,e5,e6⟩:=Hd.o w3 H3.o.wr.below
 rw[Nat.one_mul]at e0 e1 e2 e3 e4 e5 e6
 go_upto_region 6 with fail
 have Hq:=zh H3.o.drew
 go_region_with (first | (go_at_call 137;refine(Ho.o _).mono ?_;rintro e w' ⟨rfl,rfl⟩) | (go_at_call 100;refine(Hq.o.lput1 sg Hw.o Hs).mono ?_;rintro e w4 ⟨rfl,hW4,Hp⟩))
 have H4:=zh (Hq.o.go oEx oEx hW4 Hp)
 clear hW4 Hp
 clear x0 x1 x2 x3 x4 x5 x6 hl1 hl2 hbl d0 d1 d2 d3 d4 d5 d6 dg e0 e1 e2 e3 e4 e5 e6 eg
 obtain⟨x0,x1,x2,x3,x4,x5,x6⟩:=zbZ H4.o.b1
 obtain⟨hl1,hl2,hbl⟩:=H4.o.lt
 obtain⟨dg,d0,d1,d2,d3,d4,d5,d6⟩:=Hc.o w4 H4.o.wr.below
 rw[Nat.zero_mul,Nat.add_zero]at d0 d1 d2 d3 d4 d5 d6
 obtain⟨eg,e0,e1,e2,e3,e4,e5,e6⟩:=Hd.o w4 H4.o.wr.below
 rw[Nat.one_mul]at e0 e1 e2 e3 e4 e5 e6
 go_wp2_with (go_at_call 116;refine(HB.o _ w4 Hi.o H4.o.wr).mono ?_;rintro e w5 ⟨rfl,hW5,Hr⟩)
 have H5:=zh (H4.o.go oEx oEx hW5 Hr)
 clear hW5 Hr
 clear x0 x1 x2 x3 x4 x5 x6 hl1 hl2 hbl d0 d1 d2 d3 d4 d5 d6 dg e0 e1 e2 e3 e4 e5 e6 eg
 go_end0
 refine⟨rfl,?_,H5.o.kp⟩
 rw[Hu.o]
 simpa[List.append_assoc]using H5.o.wr
theorem zroZ {W0:World} {b:Nat} {x:Sx.Ex} (ih:∀p∈x.parts,ExprOk W0 b p) (h15:15≤x.kind):SidesOk W0 b x:=by
 by_cases h3:Sx.level x.kind=3
 ·exact zovZ ih h15 h3
 ·exact zowZ ih h15 h3
theorem zeqZ (a:Option Addr) (len cap:Nat) (w:World) (h:1≤len) :
  (Instr.slice 37 (.slice a len cap) (some (.int .i64 1)) none none).run Tryz.prog w=.ok (sliced a 1 len cap 7) w:=by
 have hs:(sizeOf (Tryz.prog.elem 37)).run Tryz.prog w=.ok 7 w:=by kernel_rfl
 rw[run_slice_l (P:= Tryz.prog) w 37 a len cap Tryz.underlying37 .i64 1 (by omega) (by omega),hs]
 rfl
theorem IsExs.shift {W:World} {g off:Nat} : ∀ {l:List Sx.Ex} {i:Nat},IsExs W (some ⟨g,off,none⟩) (i+1) l→IsExs W (some ⟨g,off+7,none⟩) i l
 | [],i,_=>by rw[IsExs];trivial
 | t::l,i,h=>by
  rw[IsExs]at h ⊢
  obtain⟨⟨g',off',v0,v1,v2,v3,v4,v5,v6,hA,k0,k1,k2,k3,k4,k5,k6,ht⟩,hl⟩:=h
  injection hA with hA
  injection hA with e1 e2
  subst e1 e2
  rw[show off+(i+1) * 7=off+7+i * 7 by omega]at k0 k1 k2 k3 k4 k5 k6
  exact⟨⟨g,off+7,v0,v1,v2,v3,v4,v5,v6,rfl,k0,k1,k2,k3,k4,k5,k6,ht⟩,IsExs.shift hl⟩
theorem ExRow.tail {W:World} {g off k cp:Nat} {l:List Sx.Ex} (h:ExRow W (.slice (some ⟨g,off,none⟩) k cp) l) (hl:0<l.length):ExRow W (sliced (some ⟨g,off,none⟩) 1 k cp 7) l.tail:=by
 obtain⟨A,c,hv,hc,hr⟩:=h
 injection hv with e1 e2 e3
 subst e1 e2 e3
 cases l with
 | nil=>simp at hl
 | cons x l=>
  rw[IsExs]at hr
  refine⟨_,cp-1,by unfold sliced;rw[List.tail_cons,List.length_cons];rfl,by simp at hc ⊢;omega,?_⟩
  rw[List.tail_cons]
  by_cases h1:cp=1
  ·have:l=[]:=by
    cases l with
    | nil=>rfl
    | cons y l=>simp at hc;omega
   subst this
   rw[IsExs];trivial
  ·rw[if_neg h1]
   exact IsExs.shift hr.2
theorem zrpZ (s:Lx.Bytes) (h:s.length≤100000000):Lx.quote s≠[]∧(Lx.quote s).length≤1000000000:=⟨by unfold Lx.quote;simp,by have:=Lx.quote_len s;omega⟩
theorem zrqZ (w:World) (k:Nat) (os:Array Obj):w.grownBy (Sort.grow (w.drewN k) os) none:=zbfZ (Lib.below_grow _ _ (Nat.le_refl _) _ _)
theorem zrrZ {W0:World} {b:Nat} {x:Sx.Ex} (ih:∀p∈x.parts,ExprOk W0 b p) (hG:GS W0) (hN:NG≤W0.heap.size) (hkd:x.kind=5):ExprOk W0 b x:=by
 intro v l w hr ht hz h hc
 obtain⟨hsh,hrp⟩:=hr.shape
 have H5:=Sx.sizeX_parts x
 have H4:=Sx.textX_len x
 rw[Sx.expr_eq,hkd]at hc ⊢
 rw[hkd]at hsh
 simp only[Int.reduceEq,if_true,if_false,or_false,false_or,or_true,true_or,reduceIte,Nat.reduceEqDiff]at hc ⊢
 simp[Sx.shapeX]at hsh
 obtain⟨At,ct,An,cn,Ap,cp,rfl,htt,hnn,hp,hn0,hn1⟩:=ht.agg
 rw[hkd]
 have hb:l.length+1≤1000000000:=by simp at hc;omega
 obtain⟨L,hL⟩:=zE (w.heap.size)
 obtain⟨w2,hw2⟩:=zE (w.alloc (.cells #[.int .i64 x.pos,.int .i64 5,.int .i64 x.n,.string ⟨x.s.toArray⟩,.slice At x.t.length ct,.slice An x.names.length cn,.slice Ap x.parts.length cp] 39))
 have H0:=Live.first h #[.int .i64 x.pos,.int .i64 5,.int .i64 x.n,.string ⟨x.s.toArray⟩,.slice At x.t.length ct,.slice An x.names.length cn,.slice Ap x.parts.length cp] 39 hw2
 rw[hL]at H0
 have H2:=zh H0
 clear H0 h
 clear hr ht hz hc hsh hrp H5 H4 htt hnn hp hn0 hn1 hkd ih hG hN
 go_enter Tryz.func64, Tryz.ntmps64
 obtain⟨x0,x1,x2,x3,x4,x5,x6⟩:=zbZ H2.o.b1
 obtain⟨hl1,hl2,hbl⟩:=H2.o.lt
 go_wp2_with (go_at_call 100;refine(H2.o.lput1 [115,101,108,102] ⟨by simp,by simp⟩ hb).mono ?_;rintro e w3 ⟨rfl,hW3,H1⟩)
 have H3:=zh (H2.o.go oEx oEx hW3 H1)
 clear hW3 H1
 clear x0 x1 x2 x3 x4 x5 x6 hl1 hl2 hbl
 go_end0
 refine⟨rfl,?_,H3.o.kp⟩
 have h9:=H3.o.wr
 exact h9
theorem zrsZ {W0:World} {b:Nat} {x:Sx.Ex} (ih:∀p∈x.parts,ExprOk W0 b p) (hG:GS W0) (hN:NG≤W0.heap.size) (hkd:x.kind=4):ExprOk W0 b x:=by
 intro v l w hr ht hz h hc
 obtain⟨hsh,hrp⟩:=hr.shape
 have H8:=Sx.sizeX_parts x
 have H6:=Sx.textX_len x
 rw[Sx.expr_eq,hkd]at hc ⊢
 rw[hkd]at hsh
 simp only[Int.reduceEq,if_true,if_false,or_false,false_or,or_true,true_or,reduceIte,Nat.reduceEqDiff]at hc ⊢
 simp[Sx.shapeX]at hsh
 obtain⟨At,ct,An,cn,Ap,cp,rfl,htt,hnn,hp,hn0,hn1⟩:=ht.agg
 rw[hkd]
 have hb:l.length+1≤1000000000:=by simp at hc;omega
 have H5:x.s≠[]∧x.s.length≤1000000000:=⟨NM.ok.small _ hsh.1,by omega⟩
 obtain⟨L,hL⟩:=zE (w.heap.size)
 obtain⟨w2,hw2⟩:=zE (w.alloc (.cells #[.int .i64 x.pos,.int .i64 4,.int .i64 x.n,.string ⟨x.s.toArray⟩,.slice At x.t.length ct,.slice An x.names.length cn,.slice Ap x.parts.length cp] 39))
 have H0:=Live.first h #[.int .i64 x.pos,.int .i64 4,.int .i64 x.n,.string ⟨x.s.toArray⟩,.slice At x.t.length ct,.slice An x.names.length cn,.slice Ap x.parts.length cp] 39 hw2
 rw[hL]at H0
 have H2:=zh H0
 clear H0 h
 have H7:=zh H5
 clear hr ht hz hc hsh hrp H8 H6 htt hnn hp hn0 hn1 hkd ih hG hN H5
 go_enter Tryz.func64, Tryz.ntmps64
 obtain⟨x0,x1,x2,x3,x4,x5,x6⟩:=zbZ H2.o.b1
 obtain⟨hl1,hl2,hbl⟩:=H2.o.lt
 go_upto_region 10 with fail
 have H1:=zh H2.o.drew
 go_region_with (go_at_call 100;refine(H1.o.lput1 x.s H7.o hb).mono ?_;rintro e w3 ⟨rfl,hW3,H4⟩)
 have H3:=zh (H1.o.go oEx oEx hW3 H4)
 clear hW3 H4
 clear x0 x1 x2 x3 x4 x5 x6 hl1 hl2 hbl
 go_end0
 refine⟨rfl,?_,H3.o.kp⟩
 have h9:=H3.o.wr
 exact h9
theorem zrtZ {W0:World} {b:Nat} {x:Sx.Ex} (ih:∀p∈x.parts,ExprOk W0 b p) (hG:GS W0) (hN:NG≤W0.heap.size) (hkd:x.kind=1):ExprOk W0 b x:=by
 intro v l w hr ht hz h hc
 obtain⟨hsh,hrp⟩:=hr.shape
 have H9:=Sx.sizeX_parts x
 have Hc:=Sx.textX_len x
 rw[Sx.expr_eq,hkd]at hc ⊢
 rw[hkd]at hsh
 simp only[Int.reduceEq,if_true,if_false,or_false,false_or,or_true,true_or,reduceIte,Nat.reduceEqDiff]at hc ⊢
 simp[Sx.shapeX]at hsh
 have Ha:0≤x.n:=by have:=hsh.2.1;omega
 obtain⟨At,ct,An,cn,Ap,cp,rfl,htt,hnn,hp,hn0,hn1⟩:=ht.agg
 rw[hkd]
 have hb:l.length+1≤1000000000:=by simp at hc;omega
 obtain⟨dg,hdg⟩:=zE (SY.digits x.n)
 have H0:dg=Lib.decDigits x.n.toNat:=by rw[←hdg];rfl
 have H8:dg≠[]∧dg.length≤1000000000:=by
  rw[H0]
  have h1:=Lib.decDigits_length x.n.toNat
  have h2:=Lib.nDigits_pos x.n.toNat
  have h3:=nD_le 19 x.n.toNat (by omega)
  refine⟨fun e=>?_,by omega⟩
  rw[e]at h1;simp at h1;omega
 have H7:∀w',Below W0.heap.size W0 w'→Calls Tryz.prog 113 #[.int .i64 x.n] w' fun e w''=>e=.returned (.string ⟨dg.toArray⟩)∧w'.grownBy w'' none:=fun w' hb'=>
  (Tryz.strconv_Itoa x.n hn0 hn1 w' (hG.below hb').pow).mono fun e w'' ⟨he,k,os,hw⟩=>⟨by rw[he,H0];unfold Lib.itoa;rw[if_neg (by omega)],by rw[hw];exact zrqZ _ _ _⟩
 rw[hdg]
 obtain⟨L,hL⟩:=zE (w.heap.size)
 obtain⟨w2,hw2⟩:=zE (w.alloc (.cells #[.int .i64 x.pos,.int .i64 1,.int .i64 x.n,.string ⟨x.s.toArray⟩,.slice At x.t.length ct,.slice An x.names.length cn,.slice Ap x.parts.length cp] 39))
 have H1:=Live.first h #[.int .i64 x.pos,.int .i64 1,.int .i64 x.n,.string ⟨x.s.toArray⟩,.slice At x.t.length ct,.slice An x.names.length cn,.slice Ap x.parts.length cp] 39 hw2
 rw[hL]at H1
 have H2:=zh H1
 clear H1 h
 have Hb:=zh H8
 have Hd:=zh H7
 clear hr ht hz hc hsh hrp H9 Hc htt hnn hp hn0 hn1 hkd ih hG hN H8 H7 H0 hdg
 go_enter Tryz.func64, Tryz.ntmps64
 obtain⟨x0,x1,x2,x3,x4,x5,x6⟩:=zbZ H2.o.b1
 obtain⟨hl1,hl2,hbl⟩:=H2.o.lt
 go_upto_region 4 with fail
 have H4:=zh H2.o.drew
 go_region_with (first | (go_at_call 113;refine(Hd.o _ H4.o.wr.below).mono ?_;rintro e w9 ⟨rfl,H5⟩;have HF:=zh (H4.o.grow H5);have He:=HF.o.lt;clear H5) | (go_at_call 100;refine(HF.o.lput1 dg Hb.o hb).mono ?_;rintro e w3 ⟨rfl,hW3,H6⟩))
 have H3:=zh (HF.o.go oEx oEx hW3 H6)
 clear hW3 H6
 clear x0 x1 x2 x3 x4 x5 x6 hl1 hl2 hbl
 go_end0
 refine⟨rfl,?_,H3.o.kp⟩
 have h9:=H3.o.wr
 exact h9
theorem zruZ {W0:World} {b:Nat} {x:Sx.Ex} (ih:∀p∈x.parts,ExprOk W0 b p) (hG:GS W0) (hN:NG≤W0.heap.size) (hkd:x.kind=2):ExprOk W0 b x:=by
 intro v l w hr ht hz h hc
 obtain⟨hsh,hrp⟩:=hr.shape
 have H8:=Sx.sizeX_parts x
 have Ha:=Sx.textX_len x
 rw[Sx.expr_eq,hkd]at hc ⊢
 rw[hkd]at hsh
 simp only[Int.reduceEq,if_true,if_false,or_false,false_or,or_true,true_or,reduceIte,Nat.reduceEqDiff]at hc ⊢
 simp[Sx.shapeX]at hsh
 obtain⟨At,ct,An,cn,Ap,cp,rfl,htt,hnn,hp,hn0,hn1⟩:=ht.agg
 rw[hkd]
 have hb:l.length+1≤1000000000:=by simp at hc;omega
 obtain⟨dg,hdg⟩:=zE (SY.quote x.s)
 have H6:dg≠[]∧dg.length≤1000000000:=by
  rw[←hdg]
  exact zrpZ x.s (by omega)
 have H5:∀w',Calls Tryz.prog 114 #[.string ⟨x.s.toArray⟩] w' fun e w''=>e=.returned (.string ⟨dg.toArray⟩)∧w'.grownBy w'' none:=fun w'=>
  (zjzZ ⟨x.s.toArray⟩ w' (by simp[ByteArray.size];omega)).mono fun e w'' ⟨he,hb⟩=>⟨by rw[he,←hdg];rfl,zbfZ hb⟩
 rw[hdg]
 obtain⟨L,hL⟩:=zE (w.heap.size)
 obtain⟨w2,hw2⟩:=zE (w.alloc (.cells #[.int .i64 x.pos,.int .i64 2,.int .i64 x.n,.string ⟨x.s.toArray⟩,.slice At x.t.length ct,.slice An x.names.length cn,.slice Ap x.parts.length cp] 39))
 have H0:=Live.first h #[.int .i64 x.pos,.int .i64 2,.int .i64 x.n,.string ⟨x.s.toArray⟩,.slice At x.t.length ct,.slice An x.names.length cn,.slice Ap x.parts.length cp] 39 hw2
 rw[hL]at H0
 have H2:=zh H0
 clear H0 h
 have H9:=zh H6
 have Hb:=zh H5
 clear hr ht hz hc hsh hrp H8 Ha htt hnn hp hn0 hn1 hkd ih hG hN H6 H5 hdg
 go_enter Tryz.func64, Tryz.ntmps64
 obtain⟨x0,x1,x2,x3,x4,x5,x6⟩:=zbZ H2.o.b1
 obtain⟨hl1,hl2,hbl⟩:=H2.o.lt
 go_upto_region 6 with fail
 have H7:=zh H2.o.drew
 go_region_with (first | (go_at_call 114;refine(Hb.o _).mono ?_;rintro e w9 ⟨rfl,H1⟩;have HF:=zh (H7.o.grow H1);have Hc:=HF.o.lt;clear H1) | (go_at_call 100;refine(HF.o.lput1 dg H9.o hb).mono ?_;rintro e w3 ⟨rfl,hW3,H4⟩))
 have H3:=zh (HF.o.go oEx oEx hW3 H4)
 clear hW3 H4
 clear x0 x1 x2 x3 x4 x5 x6 hl1 hl2 hbl
 go_end0
 refine⟨rfl,?_,H3.o.kp⟩
 have h9:=H3.o.wr
 exact h9
theorem zrvZ {W0:World} {b:Nat} {x:Sx.Ex} (ih:∀p∈x.parts,ExprOk W0 b p) (hG:GS W0) (hN:NG≤W0.heap.size) (hkd:x.kind=3):ExprOk W0 b x:=by
 intro v l w hr ht hz h hc
 obtain⟨hsh,hrp⟩:=hr.shape
 have H8:=Sx.sizeX_parts x
 have H9:=Sx.textX_len x
 rw[Sx.expr_eq,hkd]at hc ⊢
 rw[hkd]at hsh
 simp only[Int.reduceEq,if_true,if_false,or_false,false_or,or_true,true_or,reduceIte,Nat.reduceEqDiff]at hc ⊢
 simp[Sx.shapeX]at hsh
 have H7:x.n=0∨x.n=1:=by omega
 obtain⟨At,ct,An,cn,Ap,cp,rfl,htt,hnn,hp,hn0,hn1⟩:=ht.agg
 rw[hkd]
 have hb:l.length+1≤1000000000:=by simp at hc;omega
 rcases H7 with hn | hn
 ·rw[hn]at ht ⊢
  simp only[Int.reduceEq,reduceIte]
  obtain⟨L,hL⟩:=zE (w.heap.size)
  obtain⟨w2,hw2⟩:=zE (w.alloc (.cells #[.int .i64 x.pos,.int .i64 3,.int .i64 0,.string ⟨x.s.toArray⟩,.slice At x.t.length ct,.slice An x.names.length cn,.slice Ap x.parts.length cp] 39))
  have H4:=Live.first h #[.int .i64 x.pos,.int .i64 3,.int .i64 0,.string ⟨x.s.toArray⟩,.slice At x.t.length ct,.slice An x.names.length cn,.slice Ap x.parts.length cp] 39 hw2
  rw[hL]at H4
  have H2:=zh H4
  clear H4 h
  clear hr ht hz hc hsh hrp H8 H9 htt hnn hp hn0 hn1 hkd ih hG hN hn
  go_enter Tryz.func64, Tryz.ntmps64
  obtain⟨x0,x1,x2,x3,x4,x5,x6⟩:=zbZ H2.o.b1
  obtain⟨hl1,hl2,hbl⟩:=H2.o.lt
  go_upto_region 8 with fail
  obtain⟨K,hK⟩:=zE (w2.heap.size)
  obtain⟨w3,hw3⟩:=zE (w2.alloc (.cells #[.string ⟨#[102,97,108,115,101]⟩,.string ⟨#[116,114,117,101]⟩] 9))
  have H1:w3.heap[K]? =some (.cells #[.string ⟨#[102,97,108,115,101]⟩,.string ⟨#[116,114,117,101]⟩] 9 (0,0)):=by rw[←hw3,←hK];exact heap_alloc_new w2 _
  have H0:=(H2.o.grow (World.grownBy_alloc w2 (.cells #[.string ⟨#[102,97,108,115,101]⟩,.string ⟨#[116,114,117,101]⟩] 9) none))
  rw[hw3]at H0
  have z0:=zdZ H1 0
  have z1:=zdZ H1 1
  have zl:=zaZ H1
  have H6:=zh H0.drew
  have Ha:=H0.lt
  obtain⟨u0,u1,u2,u3,u4,u5,u6⟩:=zbZ H0.b1
  clear H1 H0
  go_region_with (go_at_call 100;refine(H6.o.lput1 [102,97,108,115,101] ⟨by simp,by simp⟩ hb).mono ?_;rintro e w4 ⟨rfl,hW3,H5⟩)
  all_goals
   have H3:=zh (H6.o.go oEx oEx hW3 H5)
   clear hW3 H5
   clear x0 x1 x2 x3 x4 x5 x6 hl1 hl2 hbl
   go_end0
   refine⟨rfl,?_,H3.o.kp⟩
   have h9:=H3.o.wr
   simpa[List.append_assoc]using h9
 ·rw[hn]at ht ⊢
  simp only[Int.reduceEq,reduceIte]
  obtain⟨L,hL⟩:=zE (w.heap.size)
  obtain⟨w2,hw2⟩:=zE (w.alloc (.cells #[.int .i64 x.pos,.int .i64 3,.int .i64 1,.string ⟨x.s.toArray⟩,.slice At x.t.length ct,.slice An x.names.length cn,.slice Ap x.parts.length cp] 39))
  have H4:=Live.first h #[.int .i64 x.pos,.int .i64 3,.int .i64 1,.string ⟨x.s.toArray⟩,.slice At x.t.length ct,.slice An x.names.length cn,.slice Ap x.parts.length cp] 39 hw2
  rw[hL]at H4
  have H2:=zh H4
  clear H4 h
  clear hr ht hz hc hsh hrp H8 H9 htt hnn hp hn0 hn1 hkd ih hG hN hn
  go_enter Tryz.func64, Tryz.ntmps64
  obtain⟨x0,x1,x2,x3,x4,x5,x6⟩:=zbZ H2.o.b1
  obtain⟨hl1,hl2,hbl⟩:=H2.o.lt
  go_upto_region 8 with fail
  obtain⟨K,hK⟩:=zE (w2.heap.size)
  obtain⟨w3,hw3⟩:=zE (w2.alloc (.cells #[.string ⟨#[102,97,108,115,101]⟩,.string ⟨#[116,114,117,101]⟩] 9))
  have H1:w3.heap[K]? =some (.cells #[.string ⟨#[102,97,108,115,101]⟩,.string ⟨#[116,114,117,101]⟩] 9 (0,0)):=by rw[←hw3,←hK];exact heap_alloc_new w2 _
  have H0:=(H2.o.grow (World.grownBy_alloc w2 (.cells #[.string ⟨#[102,97,108,115,101]⟩,.string ⟨#[116,114,117,101]⟩] 9) none))
  rw[hw3]at H0
  have z0:=zdZ H1 0
  have z1:=zdZ H1 1
  have zl:=zaZ H1
  have H6:=zh H0.drew
  have Ha:=H0.lt
  obtain⟨u0,u1,u2,u3,u4,u5,u6⟩:=zbZ H0.b1
  clear H1 H0
  go_region_with (go_at_call 100;refine(H6.o.lput1 [116,114,117,101] ⟨by simp,by simp⟩ hb).mono ?_;rintro e w4 ⟨rfl,hW3,H5⟩)
  all_goals
   have H3:=zh (H6.o.go oEx oEx hW3 H5)
   clear hW3 H5
   clear x0 x1 x2 x3 x4 x5 x6 hl1 hl2 hbl
   go_end0
   refine⟨rfl,?_,H3.o.kp⟩
   have h9:=H3.o.wr
   simpa[List.append_assoc]using h9
theorem zrwZ {W0:World} {b:Nat} {x:Sx.Ex} (ih:∀p∈x.parts,ExprOk W0 b p) (hG:GS W0) (hN:NG≤W0.heap.size) (hkd:x.kind=6):ExprOk W0 b x:=by
 intro v l w hr ht hz h hc
 obtain⟨hsh,hrp⟩:=hr.shape
 have He:=Sx.sizeX_parts x
 have Hf:=Sx.textX_len x
 rw[Sx.expr_eq,hkd]at hc ⊢
 rw[hkd]at hsh
 simp only[Int.reduceEq,if_true,if_false,or_false,false_or,or_true,true_or,reduceIte,Nat.reduceEqDiff]at hc ⊢
 simp[Sx.shapeX]at hsh
 have H6:Sx.rightTs NM 64 x.t=true:=hsh.2.2.1.2
 have Hh:x.t.length=1:=hsh.2.2.1.1
 obtain⟨At,ct,An,cn,Ap,cp,rfl,htt,hnn,hp,hn0,hn1⟩:=ht.agg
 rw[hkd]
 have H1:0<x.t.length:=by omega
 obtain⟨gT,offT,AnT,cnT,AeT,ceT,AqT,cqT,rfl,htyT,hcT⟩:=htt.spot 0 H1
 obtain⟨tT,hpeT⟩:=zE (x.t[0]'H1)
 have H0:tT∈x.t:=by rw[←hpeT];exact List.getElem_mem H1
 rw[hpeT]at hcT htyT
 have Hi:Sx.size tT≤1000000:=by have:=Sx.size_mem H0;omega
 have H9:(0:Int)<(x.t.length:Int):=by omega
 have Hc:=Sx.rights_mem H6 tT H0
 have H5:=Sx.typL_head H1
 rw[hpeT]at H5
 have Hb:=zh hcT
 have H7:=zh htyT
 clear hcT htyT
 rw[H5]at hc ⊢
 have hb:l.length+1≤1000000000:=by simp at hc;omega
 simp only[List.length_cons]at hc
 have Hj:=zh (show ∀u w,IsTy W0 u tT→Wrote W0 b (l++[[110,105,108]]).length (l++[[110,105,108]]) w→Calls Tryz.prog 59 #[.pointer (some ⟨b,0,none⟩),u] w fun e w'=>e=.returned (.tuple #[])∧Wrote W0 b (l++[[110,105,108]]++Sx.typ tT).length (l++[[110,105,108]]++Sx.typ tT) w'∧KeepW w w' from fun u w hu hw=>by
  have Hg:(l++[[110,105,108]]).length+10 * Sx.size tT≤1000000000:=by simp;omega
  refine((zdwZ NM NM.ok W0 b _ tT (Nat.le_refl _)).1 64 u _ _ w Hc hu hw Hg).mono ?_
  rintro e w' ⟨h1,h2,h3⟩
  exact⟨h1,h2.tight,h3⟩)
 obtain⟨L,hL⟩:=zE (w.heap.size)
 obtain⟨w2,hw2⟩:=zE (w.alloc (.cells #[.int .i64 x.pos,.int .i64 6,.int .i64 x.n,.string ⟨x.s.toArray⟩,.slice (some ⟨gT,offT,none⟩) x.t.length ct,.slice An x.names.length cn,.slice Ap x.parts.length cp] 39))
 have H8:=Live.first h #[.int .i64 x.pos,.int .i64 6,.int .i64 x.n,.string ⟨x.s.toArray⟩,.slice (some ⟨gT,offT,none⟩) x.t.length ct,.slice An x.names.length cn,.slice Ap x.parts.length cp] 39 hw2
 rw[hL]at H8
 have H2:=zh H8
 clear H8 h
 clear hr ht hz hc hsh hrp He Hf htt hnn hp hn0 hn1 hkd ih hG hN H6 Hh hpeT H0 Hi Hc H5 H1
 go_enter Tryz.func64, Tryz.ntmps64
 obtain⟨x0,x1,x2,x3,x4,x5,x6⟩:=zbZ H2.o.b1
 obtain⟨hl1,hl2,hbl⟩:=H2.o.lt
 obtain⟨dg,d0,d1,d2,d3,d4⟩:=Hb.o w2 H2.o.wr.below
 rw[Nat.zero_mul,Nat.add_zero]at d0 d1 d2 d3 d4
 go_upto_region 15 with(go_at_call 100;refine(H2.o.lput1 [110,105,108] ⟨by simp,by simp⟩ hb).mono ?_;rintro e w3 ⟨rfl,hW3,Ha⟩)
 have H3:=zh (H2.o.go oEx oEx hW3 Ha)
 clear hW3 Ha
 clear x0 x1 x2 x3 x4 x5 x6 hl1 hl2 hbl d0 d1 d2 d3 d4 dg
 obtain⟨x0,x1,x2,x3,x4,x5,x6⟩:=zbZ H3.o.b1
 obtain⟨hl1,hl2,hbl⟩:=H3.o.lt
 obtain⟨dg,d0,d1,d2,d3,d4⟩:=Hb.o w3 H3.o.wr.below
 rw[Nat.zero_mul,Nat.add_zero]at d0 d1 d2 d3 d4
 go_wp2_with (go_at_call 59;refine(Hj.o _ w3 H7.o H3.o.wr).mono ?_;rintro e w4 ⟨rfl,hW4,Hd⟩)
 have H4:=zh (H3.o.go oEx oEx hW4 Hd)
 clear hW4 Hd
 clear x0 x1 x2 x3 x4 x5 x6 hl1 hl2 hbl d0 d1 d2 d3 d4 dg
 go_end0
 refine⟨rfl,?_,H4.o.kp⟩
 have h9:=H4.o.wr
 simpa[List.append_assoc]using h9
theorem zrxZ {W0:World} {b:Nat} {x:Sx.Ex} (ih:∀p∈x.parts,ExprOk W0 b p) (hG:GS W0) (hN:NG≤W0.heap.size) (hkd:x.kind=7):ExprOk W0 b x:=by
 intro v l w hr ht hz h hc
 obtain⟨hsh,hrp⟩:=hr.shape
 have H9:=Sx.sizeX_parts x
 have H8:=Sx.textX_len x
 rw[Sx.expr_eq,hkd]at hc ⊢
 rw[hkd]at hsh
 simp only[Int.reduceEq,if_true,if_false,or_false,false_or,or_true,true_or,reduceIte,Nat.reduceEqDiff]at hc ⊢
 simp[Sx.shapeX]at hsh
 have H0:=zniZ ih hkd v l
 have H1:Sx.rec x=[]++[x.s,[123]]++Sx.record SY 0 x.names x.parts++[[125]]:=by unfold Sx.rec;rw[hkd];simp
 have H5:l.length+(Sx.rec x).length≤900000000:=by rw[H1];exact hc
 rw[←H1]
 have H6:=zh (fun w hw=>H0 w hr ht hz hw H5)
 obtain⟨At,ct,An,cn,Ap,cp,rfl,htt,hnn,hp,hn0,hn1⟩:=ht.agg
 rw[hkd]at H6 ⊢
 obtain⟨L,hL⟩:=zE (w.heap.size)
 obtain⟨w2,hw2⟩:=zE (w.alloc (.cells #[.int .i64 x.pos,.int .i64 7,.int .i64 x.n,.string ⟨x.s.toArray⟩,.slice At x.t.length ct,.slice An x.names.length cn,.slice Ap x.parts.length cp] 39))
 have H4:=Live.first h #[.int .i64 x.pos,.int .i64 7,.int .i64 x.n,.string ⟨x.s.toArray⟩,.slice At x.t.length ct,.slice An x.names.length cn,.slice Ap x.parts.length cp] 39 hw2
 rw[hL]at H4
 have H2:=zh H4
 clear H4 h
 clear hr ht hz hc hsh hrp H9 H8 htt hnn hp hn0 hn1 hkd ih hG hN H0 H1 H5
 go_enter Tryz.func64, Tryz.ntmps64
 obtain⟨x0,x1,x2,x3,x4,x5,x6⟩:=zbZ H2.o.b1
 obtain⟨hl1,hl2,hbl⟩:=H2.o.lt
 go_wp2_with (go_at_call 115;refine(H6.o w2 H2.o.wr).mono ?_;rintro e w3 ⟨rfl,hW3,H7⟩)
 have H3:=zh (H2.o.go oEx oEx hW3 H7)
 clear hW3 H7
 clear x0 x1 x2 x3 x4 x5 x6 hl1 hl2 hbl
 go_end0
 refine⟨rfl,?_,H3.o.kp⟩
 have h9:=H3.o.wr
 simpa[List.append_assoc]using h9
theorem zryZ {W0:World} {b:Nat} {x:Sx.Ex} (ih:∀p∈x.parts,ExprOk W0 b p) (hG:GS W0) (hN:NG≤W0.heap.size) (hkd:x.kind=8):ExprOk W0 b x:=by
 intro v l w hr ht hz h hc
 obtain⟨hsh,hrp⟩:=hr.shape
 have H9:=Sx.sizeX_parts x
 have H8:=Sx.textX_len x
 rw[Sx.expr_eq,hkd]at hc ⊢
 rw[hkd]at hsh
 simp only[Int.reduceEq,if_true,if_false,or_false,false_or,or_true,true_or,reduceIte,Nat.reduceEqDiff]at hc ⊢
 simp[Sx.shapeX]at hsh
 have H0:=znjZ ih hkd v l
 have H1:Sx.rec x=[[110,101,119]]++[x.s,[123]]++Sx.record SY 0 x.names x.parts++[[125]]:=by unfold Sx.rec;rw[hkd];simp
 have H5:l.length+(Sx.rec x).length≤900000000:=by rw[H1];exact hc
 rw[←H1]
 have H6:=zh (fun w hw=>H0 w hr ht hz hw H5)
 obtain⟨At,ct,An,cn,Ap,cp,rfl,htt,hnn,hp,hn0,hn1⟩:=ht.agg
 rw[hkd]at H6 ⊢
 obtain⟨L,hL⟩:=zE (w.heap.size)
 obtain⟨w2,hw2⟩:=zE (w.alloc (.cells #[.int .i64 x.pos,.int .i64 8,.int .i64 x.n,.string ⟨x.s.toArray⟩,.slice At x.t.length ct,.slice An x.names.length cn,.slice Ap x.parts.length cp] 39))
 have H4:=Live.first h #[.int .i64 x.pos,.int .i64 8,.int .i64 x.n,.string ⟨x.s.toArray⟩,.slice At x.t.length ct,.slice An x.names.length cn,.slice Ap x.parts.length cp] 39 hw2
 rw[hL]at H4
 have H2:=zh H4
 clear H4 h
 clear hr ht hz hc hsh hrp H9 H8 htt hnn hp hn0 hn1 hkd ih hG hN H0 H1 H5
 go_enter Tryz.func64, Tryz.ntmps64
 obtain⟨x0,x1,x2,x3,x4,x5,x6⟩:=zbZ H2.o.b1
 obtain⟨hl1,hl2,hbl⟩:=H2.o.lt
 go_wp2_with (go_at_call 115;refine(H6.o w2 H2.o.wr).mono ?_;rintro e w3 ⟨rfl,hW3,H7⟩)
 have H3:=zh (H2.o.go oEx oEx hW3 H7)
 clear hW3 H7
 clear x0 x1 x2 x3 x4 x5 x6 hl1 hl2 hbl
 go_end0
 refine⟨rfl,?_,H3.o.kp⟩
 have h9:=H3.o.wr
 simpa[List.append_assoc]using h9
theorem zrzZ {W0:World} {b:Nat} {x:Sx.Ex} (ih:∀p∈x.parts,ExprOk W0 b p) (hG:GS W0) (hN:NG≤W0.heap.size) (hkd:x.kind=9):ExprOk W0 b x:=by
 intro v l w hr ht hz h hc
 obtain⟨hsh,hrp⟩:=hr.shape
 have Hh:=Sx.sizeX_parts x
 have Hk:=Sx.textX_len x
 rw[Sx.expr_eq,hkd]at hc ⊢
 rw[hkd]at hsh
 simp only[Int.reduceEq,if_true,if_false,or_false,false_or,or_true,true_or,reduceIte,Nat.reduceEqDiff]at hc ⊢
 simp[Sx.shapeX]at hsh
 have H6:=hsh.1
 have Hi:x.parts.length=1:=by have:=hsh;omega
 have H5:0<x.parts.length:=by omega
 obtain⟨At,ct,An,cn,Ap,cp,rfl,htt,hnn,hp,hn0,hn1⟩:=ht.agg
 rw[hkd]
 obtain⟨g0,off0,At0,ct0,An0,cn0,Ap0,cp0,hA0,hty0,hc0⟩:=hp.spot 0 H5
 obtain⟨p0,hpe0⟩:=zE (x.parts[0]'H5)
 have H0:p0∈x.parts:=by rw[←hpe0];exact List.getElem_mem H5
 rw[hpe0]at hc0 hty0
 have Hc:Sx.sizeX p0≤1000000:=by have:=Sx.sizeX_mem H0;omega
 have Hb:(0:Int)<(x.parts.length:Int):=by omega
 have Ha:=zh hc0
 have H7:=zh hty0
 clear hc0 hty0
 subst hA0
 have H1:=Sx.first_head 7 H5
 rw[hpe0]at H1
 obtain⟨q0,hq0⟩:=zE (Sx.part 7 p0)
 rw[hq0]at H1
 rw[H1]at hc ⊢
 have H8:l.length+(q0.length+2)≤900000000:=by simp at hc;omega
 have He:x.s≠[]∧x.s.length≤1000000000:=⟨NM.ok.small _ H6,by omega⟩
 have HA:=zh (show ∀u w,IsEx W0 u p0→Wrote W0 b (l).length (l) w→Calls Tryz.prog 116 #[.pointer (some ⟨b,0,none⟩),u,.int .i64 (7)] w fun e w'=>e=.returned (.tuple #[])∧Wrote W0 b (l++q0).length (l++q0) w'∧KeepW w w' from fun u w hu hw=>by
  have:=zbvZ (ih p0 H0) (7) (by omega) (hrp p0 H0).kind.1 (hrp p0 H0).kind.2 u (l) w (hrp p0 H0) hu Hc hw (by rw[hq0];(try simp);omega)
  rw[hq0]at this
  exact this)
 have hb:(l++q0).length+2≤1000000000:=by simp;omega
 have Hj:=zh He
 obtain⟨L,hL⟩:=zE (w.heap.size)
 obtain⟨w2,hw2⟩:=zE (w.alloc (.cells #[.int .i64 x.pos,.int .i64 9,.int .i64 x.n,.string ⟨x.s.toArray⟩,.slice At x.t.length ct,.slice An x.names.length cn,.slice (some ⟨g0,off0,none⟩) x.parts.length cp] 39))
 have H9:=Live.first h #[.int .i64 x.pos,.int .i64 9,.int .i64 x.n,.string ⟨x.s.toArray⟩,.slice At x.t.length ct,.slice An x.names.length cn,.slice (some ⟨g0,off0,none⟩) x.parts.length cp] 39 hw2
 rw[hL]at H9
 have H2:=zh H9
 clear H9 h
 clear hr ht hz hc hsh hrp Hh Hk htt hnn hp hn0 hn1 hkd ih hG hN hpe0 H0 Hc H5 hq0 H1 H6 Hi He H8
 go_enter Tryz.func64, Tryz.ntmps64
 obtain⟨x0,x1,x2,x3,x4,x5,x6⟩:=zbZ H2.o.b1
 obtain⟨hl1,hl2,hbl⟩:=H2.o.lt
 obtain⟨dg,d0,d1,d2,d3,d4,d5,d6⟩:=Ha.o w2 H2.o.wr.below
 rw[Nat.zero_mul,Nat.add_zero]at d0 d1 d2 d3 d4 d5 d6
 go_upto_region 21 with(go_at_call 116;refine(HA.o _ w2 H7.o H2.o.wr).mono ?_;rintro e w3 ⟨rfl,hW3,Hd⟩)
 have H3:=zh (H2.o.go oEx oEx hW3 Hd)
 clear hW3 Hd
 clear x0 x1 x2 x3 x4 x5 x6 hl1 hl2 hbl d0 d1 d2 d3 d4 d5 d6 dg
 obtain⟨x0,x1,x2,x3,x4,x5,x6⟩:=zbZ H3.o.b1
 obtain⟨hl1,hl2,hbl⟩:=H3.o.lt
 obtain⟨dg,d0,d1,d2,d3,d4,d5,d6⟩:=Ha.o w3 H3.o.wr.below
 rw[Nat.zero_mul,Nat.add_zero]at d0 d1 d2 d3 d4 d5 d6
 go_upto_region 21 with fail
 have Hg:=zh H3.o.drew
 go_region_with (go_at_call 100;refine(Hg.o.lput2 [46] x.s ⟨by simp,by simp⟩ Hj.o hb).mono ?_;rintro e w4 ⟨rfl,hW4,Hf⟩)
 have H4:=zh (Hg.o.go oEx oEx hW4 Hf)
 clear hW4 Hf
 clear x0 x1 x2 x3 x4 x5 x6 hl1 hl2 hbl d0 d1 d2 d3 d4 d5 d6 dg
 go_end0
 refine⟨rfl,?_,H4.o.kp⟩
 have h9:=H4.o.wr
 simpa[List.append_assoc]using h9
theorem zoxZ {W0:World} {b:Nat} {x:Sx.Ex} (ih:∀p∈x.parts,ExprOk W0 b p) (hG:GS W0) (hN:NG≤W0.heap.size) (hkd:x.kind=12):ExprOk W0 b x:=by
 intro v l w hr ht hz h hc
 obtain⟨hsh,hrp⟩:=hr.shape
 have Ho:=Sx.sizeX_parts x
 have Hq:=Sx.textX_len x
 rw[Sx.expr_eq,hkd]at hc ⊢
 rw[hkd]at hsh
 simp only[Int.reduceEq,if_true,if_false,or_false,false_or,or_true,true_or,reduceIte,Nat.reduceEqDiff]at hc ⊢
 simp[Sx.shapeX]at hsh
 have Ha:Sx.rightTs NM 64 x.t=true:=hsh.2.2.1.2
 have Hs:x.t.length=1:=hsh.2.2.1.1
 have Hp:x.parts.length=1:=by have:=hsh;omega
 have H8:0<x.parts.length:=by omega
 obtain⟨At,ct,An,cn,Ap,cp,rfl,htt,hnn,hp,hn0,hn1⟩:=ht.agg
 rw[hkd]
 obtain⟨g0,off0,At0,ct0,An0,cn0,Ap0,cp0,hA0,hty0,hc0⟩:=hp.spot 0 H8
 obtain⟨p0,hpe0⟩:=zE (x.parts[0]'H8)
 have H0:p0∈x.parts:=by rw[←hpe0];exact List.getElem_mem H8
 rw[hpe0]at hc0 hty0
 have Hj:Sx.sizeX p0≤1000000:=by have:=Sx.sizeX_mem H0;omega
 have Hi:(0:Int)<(x.parts.length:Int):=by omega
 have Hb:=zh hc0
 have Hc:=zh hty0
 clear hc0 hty0
 subst hA0
 have H1:=Sx.first_head 7 H8
 rw[hpe0]at H1
 obtain⟨q0,hq0⟩:=zE (Sx.part 7 p0)
 rw[hq0]at H1
 rw[H1]at hc ⊢
 have H7:0<x.t.length:=by omega
 obtain⟨gT,offT,AnT,cnT,AeT,ceT,AqT,cqT,rfl,htyT,hcT⟩:=htt.spot 0 H7
 obtain⟨tT,hpeT⟩:=zE (x.t[0]'H7)
 have H6:tT∈x.t:=by rw[←hpeT];exact List.getElem_mem H7
 rw[hpeT]at hcT htyT
 have Ht:Sx.size tT≤1000000:=by have:=Sx.size_mem H6;omega
 have Hh:(0:Int)<(x.t.length:Int):=by omega
 have Hl:=Sx.rights_mem Ha tT H6
 have H9:=Sx.typL_head H7
 rw[hpeT]at H9
 have He:=zh hcT
 have Hf:=zh htyT
 clear hcT htyT
 rw[H9]at hc ⊢
 have Hd:l.length+(q0.length+1)≤900000000:=by simp at hc;omega
 have hb:(l++q0).length+1≤1000000000:=by simp;omega
 have HA:=zh (show ∀u w,IsEx W0 u p0→Wrote W0 b (l).length (l) w→Calls Tryz.prog 116 #[.pointer (some ⟨b,0,none⟩),u,.int .i64 (7)] w fun e w'=>e=.returned (.tuple #[])∧Wrote W0 b (l++q0).length (l++q0) w'∧KeepW w w' from fun u w hu hw=>by
  have:=zbvZ (ih p0 H0) (7) (by omega) (hrp p0 H0).kind.1 (hrp p0 H0).kind.2 u (l) w (hrp p0 H0) hu Hj hw (by rw[hq0];(try simp);omega)
  rw[hq0]at this
  exact this)
 have Hu:=zh (show ∀u w,IsTy W0 u tT→Wrote W0 b (l++q0++[[116,111]]).length (l++q0++[[116,111]]) w→Calls Tryz.prog 59 #[.pointer (some ⟨b,0,none⟩),u] w fun e w'=>e=.returned (.tuple #[])∧Wrote W0 b (l++q0++[[116,111]]++Sx.typ tT).length (l++q0++[[116,111]]++Sx.typ tT) w'∧KeepW w w' from fun u w hu hw=>by
  have Hr:(l++q0++[[116,111]]).length+10 * Sx.size tT≤1000000000:=by simp;omega
  refine((zdwZ NM NM.ok W0 b _ tT (Nat.le_refl _)).1 64 u _ _ w Hl hu hw Hr).mono ?_
  rintro e w' ⟨h1,h2,h3⟩
  exact⟨h1,h2.tight,h3⟩)
 obtain⟨L,hL⟩:=zE (w.heap.size)
 obtain⟨w2,hw2⟩:=zE (w.alloc (.cells #[.int .i64 x.pos,.int .i64 12,.int .i64 x.n,.string ⟨x.s.toArray⟩,.slice (some ⟨gT,offT,none⟩) x.t.length ct,.slice An x.names.length cn,.slice (some ⟨g0,off0,none⟩) x.parts.length cp] 39))
 have Hg:=Live.first h #[.int .i64 x.pos,.int .i64 12,.int .i64 x.n,.string ⟨x.s.toArray⟩,.slice (some ⟨gT,offT,none⟩) x.t.length ct,.slice An x.names.length cn,.slice (some ⟨g0,off0,none⟩) x.parts.length cp] 39 hw2
 rw[hL]at Hg
 have H2:=zh Hg
 clear Hg h
 clear hr ht hz hc hsh hrp Ho Hq htt hnn hp hn0 hn1 hkd ih hG hN hpe0 H0 Hj H8 hq0 H1 Ha Hs hpeT H6 Ht Hl H9 H7 Hp Hd
 go_enter Tryz.func64, Tryz.ntmps64
 obtain⟨x0,x1,x2,x3,x4,x5,x6⟩:=zbZ H2.o.b1
 obtain⟨hl1,hl2,hbl⟩:=H2.o.lt
 obtain⟨dg,d0,d1,d2,d3,d4,d5,d6⟩:=Hb.o w2 H2.o.wr.below
 rw[Nat.zero_mul,Nat.add_zero]at d0 d1 d2 d3 d4 d5 d6
 obtain⟨eg,e0,e1,e2,e3,e4⟩:=He.o w2 H2.o.wr.below
 rw[Nat.zero_mul,Nat.add_zero]at e0 e1 e2 e3 e4
 go_upto_region 33 with(go_at_call 116;refine(HA.o _ w2 Hc.o H2.o.wr).mono ?_;rintro e w3 ⟨rfl,hW3,Hk⟩)
 have H3:=zh (H2.o.go oEx oEx hW3 Hk)
 clear hW3 Hk
 clear x0 x1 x2 x3 x4 x5 x6 hl1 hl2 hbl d0 d1 d2 d3 d4 d5 d6 dg e0 e1 e2 e3 e4 eg
 obtain⟨x0,x1,x2,x3,x4,x5,x6⟩:=zbZ H3.o.b1
 obtain⟨hl1,hl2,hbl⟩:=H3.o.lt
 obtain⟨dg,d0,d1,d2,d3,d4,d5,d6⟩:=Hb.o w3 H3.o.wr.below
 rw[Nat.zero_mul,Nat.add_zero]at d0 d1 d2 d3 d4 d5 d6
 obtain⟨eg,e0,e1,e2,e3,e4⟩:=He.o w3 H3.o.wr.below
 rw[Nat.zero_mul,Nat.add_zero]at e0 e1 e2 e3 e4
 go_upto_region 34 with(go_at_call 100;refine(H3.o.lput1 [116,111] ⟨by simp,by simp⟩ hb).mono ?_;rintro e w4 ⟨rfl,hW4,Hm⟩)
 have H4:=zh (H3.o.go oEx oEx hW4 Hm)
 clear hW4 Hm
 clear x0 x1 x2 x3 x4 x5 x6 hl1 hl2 hbl d0 d1 d2 d3 d4 d5 d6 dg e0 e1 e2 e3 e4 eg
 obtain⟨x0,x1,x2,x3,x4,x5,x6⟩:=zbZ H4.o.b1
 obtain⟨hl1,hl2,hbl⟩:=H4.o.lt
 obtain⟨dg,d0,d1,d2,d3,d4,d5,d6⟩:=Hb.o w4 H4.o.wr.below
 rw[Nat.zero_mul,Nat.add_zero]at d0 d1 d2 d3 d4 d5 d6
 obtain⟨eg,e0,e1,e2,e3,e4⟩:=He.o w4 H4.o.wr.below
 rw[Nat.zero_mul,Nat.add_zero]at e0 e1 e2 e3 e4
 go_wp2_with (go_at_call 59;refine(Hu.o _ w4 Hf.o H4.o.wr).mono ?_;rintro e w5 ⟨rfl,hW5,Hn⟩)
 have H5:=zh (H4.o.go oEx oEx hW5 Hn)
 clear hW5 Hn
 clear x0 x1 x2 x3 x4 x5 x6 hl1 hl2 hbl d0 d1 d2 d3 d4 d5 d6 dg e0 e1 e2 e3 e4 eg
 go_end0
 refine⟨rfl,?_,H5.o.kp⟩
 have h9:=H5.o.wr
 simpa[List.append_assoc]using h9
theorem zoyZ {W0:World} {b:Nat} {x:Sx.Ex} (ih:∀p∈x.parts,ExprOk W0 b p) (hG:GS W0) (hN:NG≤W0.heap.size) (hkd:x.kind=13):ExprOk W0 b x:=by
 intro v l w hr ht hz h hc
 obtain⟨hsh,hrp⟩:=hr.shape
 have He:=Sx.sizeX_parts x
 have Hg:=Sx.textX_len x
 rw[Sx.expr_eq,hkd]at hc ⊢
 rw[hkd]at hsh
 simp only[Int.reduceEq,if_true,if_false,or_false,false_or,or_true,true_or,reduceIte,Nat.reduceEqDiff]at hc ⊢
 simp[Sx.shapeX]at hsh
 have Hf:x.parts.length=1:=by have:=hsh;omega
 have H5:0<x.parts.length:=by omega
 obtain⟨At,ct,An,cn,Ap,cp,rfl,htt,hnn,hp,hn0,hn1⟩:=ht.agg
 rw[hkd]
 obtain⟨g0,off0,At0,ct0,An0,cn0,Ap0,cp0,hA0,hty0,hc0⟩:=hp.spot 0 H5
 obtain⟨p0,hpe0⟩:=zE (x.parts[0]'H5)
 have H0:p0∈x.parts:=by rw[←hpe0];exact List.getElem_mem H5
 rw[hpe0]at hc0 hty0
 have H9:Sx.sizeX p0≤1000000:=by have:=Sx.sizeX_mem H0;omega
 have Hd:(0:Int)<(x.parts.length:Int):=by omega
 have Ha:=zh hc0
 have H7:=zh hty0
 clear hc0 hty0
 subst hA0
 have H1:=Sx.first_head 6 H5
 rw[hpe0]at H1
 obtain⟨q0,hq0⟩:=zE (Sx.part 6 p0)
 rw[hq0]at H1
 rw[H1]at hc ⊢
 have H6:l.length+(1+q0.length)≤900000000:=by simp at hc;omega
 have hb:l.length+1≤1000000000:=by omega
 have HA:=zh (show ∀u w,IsEx W0 u p0→Wrote W0 b (l++[[45]]).length (l++[[45]]) w→Calls Tryz.prog 116 #[.pointer (some ⟨b,0,none⟩),u,.int .i64 (6)] w fun e w'=>e=.returned (.tuple #[])∧Wrote W0 b (l++[[45]]++q0).length (l++[[45]]++q0) w'∧KeepW w w' from fun u w hu hw=>by
  have:=zbvZ (ih p0 H0) (6) (by omega) (hrp p0 H0).kind.1 (hrp p0 H0).kind.2 u (l++[[45]]) w (hrp p0 H0) hu H9 hw (by rw[hq0];(try simp);omega)
  rw[hq0]at this
  exact this)
 obtain⟨L,hL⟩:=zE (w.heap.size)
 obtain⟨w2,hw2⟩:=zE (w.alloc (.cells #[.int .i64 x.pos,.int .i64 13,.int .i64 x.n,.string ⟨x.s.toArray⟩,.slice At x.t.length ct,.slice An x.names.length cn,.slice (some ⟨g0,off0,none⟩) x.parts.length cp] 39))
 have H8:=Live.first h #[.int .i64 x.pos,.int .i64 13,.int .i64 x.n,.string ⟨x.s.toArray⟩,.slice At x.t.length ct,.slice An x.names.length cn,.slice (some ⟨g0,off0,none⟩) x.parts.length cp] 39 hw2
 rw[hL]at H8
 have H2:=zh H8
 clear H8 h
 clear hr ht hz hc hsh hrp He Hg htt hnn hp hn0 hn1 hkd ih hG hN hpe0 H0 H9 H5 hq0 H1 Hf H6
 go_enter Tryz.func64, Tryz.ntmps64
 obtain⟨x0,x1,x2,x3,x4,x5,x6⟩:=zbZ H2.o.b1
 obtain⟨hl1,hl2,hbl⟩:=H2.o.lt
 obtain⟨dg,d0,d1,d2,d3,d4,d5,d6⟩:=Ha.o w2 H2.o.wr.below
 rw[Nat.zero_mul,Nat.add_zero]at d0 d1 d2 d3 d4 d5 d6
 go_upto_region 40 with(go_at_call 100;refine(H2.o.lput1 [45] ⟨by simp,by simp⟩ hb).mono ?_;rintro e w3 ⟨rfl,hW3,Hb⟩)
 have H3:=zh (H2.o.go oEx oEx hW3 Hb)
 clear hW3 Hb
 clear x0 x1 x2 x3 x4 x5 x6 hl1 hl2 hbl d0 d1 d2 d3 d4 d5 d6 dg
 obtain⟨x0,x1,x2,x3,x4,x5,x6⟩:=zbZ H3.o.b1
 obtain⟨hl1,hl2,hbl⟩:=H3.o.lt
 obtain⟨dg,d0,d1,d2,d3,d4,d5,d6⟩:=Ha.o w3 H3.o.wr.below
 rw[Nat.zero_mul,Nat.add_zero]at d0 d1 d2 d3 d4 d5 d6
 go_wp2_with (go_at_call 116;refine(HA.o _ w3 H7.o H3.o.wr).mono ?_;rintro e w4 ⟨rfl,hW4,Hc⟩)
 have H4:=zh (H3.o.go oEx oEx hW4 Hc)
 clear hW4 Hc
 clear x0 x1 x2 x3 x4 x5 x6 hl1 hl2 hbl d0 d1 d2 d3 d4 d5 d6 dg
 go_end0
 refine⟨rfl,?_,H4.o.kp⟩
 have h9:=H4.o.wr
 simpa[List.append_assoc]using h9
theorem zozZ {W0:World} {b:Nat} {x:Sx.Ex} (ih:∀p∈x.parts,ExprOk W0 b p) (hG:GS W0) (hN:NG≤W0.heap.size) (hkd:x.kind=14):ExprOk W0 b x:=by
 intro v l w hr ht hz h hc
 obtain⟨hsh,hrp⟩:=hr.shape
 have He:=Sx.sizeX_parts x
 have Hg:=Sx.textX_len x
 rw[Sx.expr_eq,hkd]at hc ⊢
 rw[hkd]at hsh
 simp only[Int.reduceEq,if_true,if_false,or_false,false_or,or_true,true_or,reduceIte,Nat.reduceEqDiff]at hc ⊢
 simp[Sx.shapeX]at hsh
 have Hf:x.parts.length=1:=by have:=hsh;omega
 have H5:0<x.parts.length:=by omega
 obtain⟨At,ct,An,cn,Ap,cp,rfl,htt,hnn,hp,hn0,hn1⟩:=ht.agg
 rw[hkd]
 obtain⟨g0,off0,At0,ct0,An0,cn0,Ap0,cp0,hA0,hty0,hc0⟩:=hp.spot 0 H5
 obtain⟨p0,hpe0⟩:=zE (x.parts[0]'H5)
 have H0:p0∈x.parts:=by rw[←hpe0];exact List.getElem_mem H5
 rw[hpe0]at hc0 hty0
 have H9:Sx.sizeX p0≤1000000:=by have:=Sx.sizeX_mem H0;omega
 have Hd:(0:Int)<(x.parts.length:Int):=by omega
 have Ha:=zh hc0
 have H7:=zh hty0
 clear hc0 hty0
 subst hA0
 have H1:=Sx.first_head 6 H5
 rw[hpe0]at H1
 obtain⟨q0,hq0⟩:=zE (Sx.part 6 p0)
 rw[hq0]at H1
 rw[H1]at hc ⊢
 have H6:l.length+(1+q0.length)≤900000000:=by simp at hc;omega
 have hb:l.length+1≤1000000000:=by omega
 have HA:=zh (show ∀u w,IsEx W0 u p0→Wrote W0 b (l++[[110,111,116]]).length (l++[[110,111,116]]) w→Calls Tryz.prog 116 #[.pointer (some ⟨b,0,none⟩),u,.int .i64 (6)] w fun e w'=>e=.returned (.tuple #[])∧Wrote W0 b (l++[[110,111,116]]++q0).length (l++[[110,111,116]]++q0) w'∧KeepW w w' from fun u w hu hw=>by
  have:=zbvZ (ih p0 H0) (6) (by omega) (hrp p0 H0).kind.1 (hrp p0 H0).kind.2 u (l++[[110,111,116]]) w (hrp p0 H0) hu H9 hw (by rw[hq0];(try simp);omega)
  rw[hq0]at this
  exact this)
 obtain⟨L,hL⟩:=zE (w.heap.size)
 obtain⟨w2,hw2⟩:=zE (w.alloc (.cells #[.int .i64 x.pos,.int .i64 14,.int .i64 x.n,.string ⟨x.s.toArray⟩,.slice At x.t.length ct,.slice An x.names.length cn,.slice (some ⟨g0,off0,none⟩) x.parts.length cp] 39))
 have H8:=Live.first h #[.int .i64 x.pos,.int .i64 14,.int .i64 x.n,.string ⟨x.s.toArray⟩,.slice At x.t.length ct,.slice An x.names.length cn,.slice (some ⟨g0,off0,none⟩) x.parts.length cp] 39 hw2
 rw[hL]at H8
 have H2:=zh H8
 clear H8 h
 clear hr ht hz hc hsh hrp He Hg htt hnn hp hn0 hn1 hkd ih hG hN hpe0 H0 H9 H5 hq0 H1 Hf H6
 go_enter Tryz.func64, Tryz.ntmps64
 obtain⟨x0,x1,x2,x3,x4,x5,x6⟩:=zbZ H2.o.b1
 obtain⟨hl1,hl2,hbl⟩:=H2.o.lt
 obtain⟨dg,d0,d1,d2,d3,d4,d5,d6⟩:=Ha.o w2 H2.o.wr.below
 rw[Nat.zero_mul,Nat.add_zero]at d0 d1 d2 d3 d4 d5 d6
 go_upto_region 40 with(go_at_call 100;refine(H2.o.lput1 [110,111,116] ⟨by simp,by simp⟩ hb).mono ?_;rintro e w3 ⟨rfl,hW3,Hb⟩)
 have H3:=zh (H2.o.go oEx oEx hW3 Hb)
 clear hW3 Hb
 clear x0 x1 x2 x3 x4 x5 x6 hl1 hl2 hbl d0 d1 d2 d3 d4 d5 d6 dg
 obtain⟨x0,x1,x2,x3,x4,x5,x6⟩:=zbZ H3.o.b1
 obtain⟨hl1,hl2,hbl⟩:=H3.o.lt
 obtain⟨dg,d0,d1,d2,d3,d4,d5,d6⟩:=Ha.o w3 H3.o.wr.below
 rw[Nat.zero_mul,Nat.add_zero]at d0 d1 d2 d3 d4 d5 d6
 go_wp2_with (go_at_call 116;refine(HA.o _ w3 H7.o H3.o.wr).mono ?_;rintro e w4 ⟨rfl,hW4,Hc⟩)
 have H4:=zh (H3.o.go oEx oEx hW4 Hc)
 clear hW4 Hc
 clear x0 x1 x2 x3 x4 x5 x6 hl1 hl2 hbl d0 d1 d2 d3 d4 d5 d6 dg
 go_end0
 refine⟨rfl,?_,H4.o.kp⟩
 have h9:=H4.o.wr
 simpa[List.append_assoc]using h9
theorem zpaZ {W0:World} {b:Nat} {x:Sx.Ex} (ih:∀p∈x.parts,ExprOk W0 b p) (h15:15≤x.kind):ExprOk W0 b x:=by
 intro v l w hr ht hz h hc
 have H0:=zroZ ih h15 v l
 have he:Sx.expr SY x=Sx.sided x:=by
  rw[Sx.expr_eq]
  rw[if_neg (by omega),if_neg (by omega),if_neg (by omega),if_neg (by omega),if_neg (by omega),if_neg (by omega),if_neg (by omega),if_neg (by omega),if_neg (by omega),if_neg (by omega),if_neg (by omega),if_neg (by omega)]
  rfl
 rw[he]at hc ⊢
 have H5:=zh (fun w hw=>H0 w hr ht hz hw hc)
 have H4:=hr.kind.2
 obtain⟨At,ct,An,cn,Ap,cp,rfl,htt,hnn,hp,hn0,hn1⟩:=ht.agg
 obtain⟨kd,hkd⟩:=zE (x.kind)
 rw[hkd]at h15 H4 H5 ⊢
 have e1:(kd==1)=false:=by rw[beq_eq_false_iff_ne];omega
 have e2:(kd==2)=false:=by rw[beq_eq_false_iff_ne];omega
 have e3:(kd==3)=false:=by rw[beq_eq_false_iff_ne];omega
 have e4:(kd==4)=false:=by rw[beq_eq_false_iff_ne];omega
 have e5:(kd==5)=false:=by rw[beq_eq_false_iff_ne];omega
 have e6:(kd==6)=false:=by rw[beq_eq_false_iff_ne];omega
 have e7:(kd==7)=false:=by rw[beq_eq_false_iff_ne];omega
 have e8:(kd==8)=false:=by rw[beq_eq_false_iff_ne];omega
 have e9:(kd==9)=false:=by rw[beq_eq_false_iff_ne];omega
 have e10:(kd==10)=false:=by rw[beq_eq_false_iff_ne];omega
 have e11:(kd==11)=false:=by rw[beq_eq_false_iff_ne];omega
 have e12:(kd==12)=false:=by rw[beq_eq_false_iff_ne];omega
 have e13:(kd==13)=false:=by rw[beq_eq_false_iff_ne];omega
 have e14:(kd==14)=false:=by rw[beq_eq_false_iff_ne];omega
 obtain⟨L,hL⟩:=zE (w.heap.size)
 obtain⟨w2,hw2⟩:=zE (w.alloc (.cells #[.int .i64 x.pos,.int .i64 kd,.int .i64 x.n,.string ⟨x.s.toArray⟩,.slice At x.t.length ct,.slice An x.names.length cn,.slice Ap x.parts.length cp] 39))
 have H1:=Live.first h #[.int .i64 x.pos,.int .i64 kd,.int .i64 x.n,.string ⟨x.s.toArray⟩,.slice At x.t.length ct,.slice An x.names.length cn,.slice Ap x.parts.length cp] 39 hw2
 rw[hL]at H1
 have H2:=zh H1
 clear H1 h
 clear hr ht hz hc htt hnn hp hn0 hn1 hkd ih H0 he h15 H4
 go_enter Tryz.func64, Tryz.ntmps64
 obtain⟨x0,x1,x2,x3,x4,x5,x6⟩:=zbZ H2.o.b1
 obtain⟨hl1,hl2,hbl⟩:=H2.o.lt
 go_wp2_with (go_at_call 119;refine(H5.o w2 H2.o.wr).mono ?_;rintro e w3 ⟨rfl,hW3,H6⟩)
 have H3:=zh (H2.o.go oEx oEx hW3 H6)
 clear hW3 H6
 clear x0 x1 x2 x3 x4 x5 x6 hl1 hl2 hbl
 go_end0
 refine⟨rfl,?_,H3.o.kp⟩
 have h9:=H3.o.wr
 simpa[List.append_assoc]using h9
end Go.Proofs.YtdncljdfmdgdaaaGreatDoor
