/-
  The walk of coillaw2.SyntaxExprs.
-/
import Derived.Test.YtdncljdfmdgdaaaGreatDoorM1
import Derived.Test.YtdncljdfmdgdaaaGreatDoorM29
import Derived.Test.YtdncljdfmdgdaaaGreatDoorM36
import Derived.Test.YtdncljdfmdgdaaaGreatDoorM42
import Derived.Test.YtdncljdfmdgdaaaGreatDoorM43
import Derived.Test.YtdncljdfmdgdaaaGreatDoorM44
import Derived.Test.YtdncljdfmdgdaaaGreatDoorM26
import Derived.Test.YtdncljdfmdgdaaaGreatDoorM22
import Derived.Test.YtdncljdfmdgdaaaGreatDoorM27
set_option linter.unusedSimpArgs false
set_option linter.unusedVariables false
set_option maxRecDepth 100000
set_option maxHeartbeats 16000000
namespace Go.Proofs.YtdncljdfmdgdaaaGreatDoor
open Go.RowKit Go.Shelf
def boxX (a:Sx.Ex) (A1:Option Addr) (c1:Nat) (A2:Option Addr) (c2:Nat) (A3:Option Addr) (c3:Nat):Array Value:=#[.int .i64 a.pos,.int .i64 a.kind,.int .i64 a.n,.string ⟨a.s.toArray⟩,.slice A1 a.t.length c1,.slice A2 a.names.length c2,.slice A3 a.parts.length c3]
structure OneX (w:World) (c0:Array Value) (X:World):Prop where
 lw:LW w X
 k0:X.heap[w.heap.size]? =some (.cells c0 39 (0,0))
theorem OneX.go {w X X':World} {c0:Array Value} (h:OneX w c0 X) (hb:Below X.heap.size X X'):OneX w c0 X':=⟨h.lw.go hb,(hb.block _ (zaZ h.k0)).trans h.k0⟩
theorem OneX.first {w:World} (hG:GL w) (hN:NG≤w.heap.size) (c0:Array Value):OneX w c0 (w.alloc (.cells c0 39)):=⟨(LW.refl hG hN).alloc _,heap_alloc_new w _⟩
structure CopyX (w:World) (c0:Array Value) (K:Nat) (c1:Array Value) (a:Sx.Ex) (X:World):Prop where
 one:OneX w c0 X
 k1:X.heap[K]? =some (.cells c1 39 (0,0))
 ty:IsEx X (.agg c1) a
theorem CopyX.go {w X X':World} {c0 c1:Array Value} {K:Nat} {a:Sx.Ex} (h:CopyX w c0 K c1 a X) (hb:Below X.heap.size X X'):CopyX w c0 K c1 a X':=⟨h.one.go hb,(hb.block _ (zaZ h.k1)).trans h.k1,IsEx.below hb _ _ h.ty⟩
theorem zswZ (hruns:RunsOk) (a:Sx.Ex) (v:Value) (w:World) (ha:ExArg w v a) (hG:GL w) (hN:NG≤w.heap.size) :
  Calls Tryz.prog 5 #[v] w fun e w'=>e=.returned (.bool true)∧LW w w':=by
 obtain⟨hta,hfa⟩:=ha
 obtain⟨A1,c1,A2,c2,A3,c3,rfl,-⟩:=id hta.agg
 have Hc:=IsEx.num _ _ hta
 have Hs:=zh Hc
 clear Hc
 obtain⟨L,hL⟩:=zE (w.heap.size)
 have Hf:=zh (fun X (hX:LW w X)=>hruns.at hX)
 have Ht:=zh (fun X (hX:OneX w (boxX a A1 c1 A2 c2 A3 c3) X)=>(zqhZ _ a (Nat.le_refl _) hfa 20000 _ X (by omega) (by omega) (IsEx.below hX.lw.b _ _ hta)).mono fun e w' (h:SizeIs 20000 (Sx.sizeX a) X e w')=>(show ∃r:Nat,e=.returned (.int .i64 (r:Nat))∧(r<20000→r=Sx.sizeX a)∧r≤1000000000000000∧OneX w (boxX a A1 c1 A2 c2 A3 c3) w' by obtain⟨r,h1,h2,h3,h4⟩:=h;exact⟨r,h1,h3,by omega,hX.go h4⟩))
 have Hn:=zh hta
 have HG:=zh hG
 have HN:=zh hN
 clear hfa hta
 go_enter Tryz.func5, Tryz.ntmps5
 obtain⟨w2,hw2⟩:=zE (w.alloc (.cells #[.int .i64 a.pos,.int .i64 a.kind,.int .i64 a.n,.string ⟨a.s.toArray⟩,.slice A1 a.t.length c1,.slice A2 a.names.length c2,.slice A3 a.parts.length c3] 39))
 have H2:=zh (show OneX w (boxX a A1 c1 A2 c2 A3 c3) w2 by rw[←hw2];exact OneX.first HG.o HN.o _)
 clear hG hN
 have Hx:∀X,OneX w (boxX a A1 c1 A2 c2 A3 c3) X→L<X.heap.size∧(X.cell? ⟨L,0,none⟩=some (.int .i64 a.pos)∧X.cell? ⟨L,1,none⟩=some (.int .i64 a.kind)∧X.cell? ⟨L,2,none⟩=some (.int .i64 a.n)∧X.cell? ⟨L,3,none⟩=some (.string ⟨a.s.toArray⟩)∧X.cell? ⟨L,4,none⟩=some (.slice A1 a.t.length c1)∧X.cell? ⟨L,5,none⟩=some (.slice A2 a.names.length c2)∧X.cell? ⟨L,6,none⟩=some (.slice A3 a.parts.length c3)):=by
  intro X hX
  have h:=hX.k0
  rw[hL]at h
  exact⟨zaZ h,zbZ h⟩
 have KEY:=zh Hx
 clear Hx
 obtain⟨l1,x0,x1,x2,x3,x4,x5,x6⟩:=KEY.o w2 H2.o
 go_wp2_with fail
 refine(Ht.o w2 H2.o).mono ?_
 rintro e w3 ⟨r,rfl,Hw,J2,Hk⟩
 have H3:=zh Hk
 have r0:(0:Int)≤(r:Int):=by omega
 have r1:(r:Int)≤1000000000000000:=by omega
 clear Hk hw2
 clear x0 x1 x2 x3 x4 x5 x6 l1
 obtain⟨l1,x0,x1,x2,x3,x4,x5,x6⟩:=KEY.o w3 H3.o
 by_cases hra:r<20000
 ·have Hb:=zh (show Sx.sizeX a<20000 by have:=Hw hra;omega)
  have ga:¬(20000:Int)≤(r:Int):=by omega
  have ga2:decide ((20000:Int)≤(r:Int))=false:=by rw[decide_eq_false_iff_not];omega
  clear Hw J2 hra
  go_wp2_with fail
  refine(zleZ 20000 a (by have:=Hb.o;omega) (by omega) _ w3 (IsEx.below H3.o.lw.b _ _ Hn.o)).mono ?_
  rintro e w4 ⟨v',rfl,hown,J1⟩
  have Hd:=IsEx.sub (zraZ _ _) _ _ hown
  have H4:=zh (H3.o.go J1)
  obtain⟨a1,e1,a2,e2,a3,e3,rfl,-⟩:=id Hd.agg
  obtain⟨K5,hK5⟩:=zE (w4.heap.size)
  obtain⟨w5,Hl⟩:=zE (w4.alloc (.cells #[.int .i64 a.pos,.int .i64 a.kind,.int .i64 a.n,.string ⟨a.s.toArray⟩,.slice a1 a.t.length e1,.slice a2 a.names.length e2,.slice a3 a.parts.length e3] 39))
  have H5:=zh (show CopyX w (boxX a A1 c1 A2 c2 A3 c3) K5 (boxX a a1 e1 a2 e2 a3 e3) a w5 by
   rw[←Hl,←hK5]
   exact⟨H4.o.go (zeZ (World.grownBy_alloc w4 _ none)),heap_alloc_new w4 _,IsEx.below (zeZ (World.grownBy_alloc w4 _ none)) _ _ Hd⟩)
  have J0:=zh Hl
  clear Hl hown J1 Hd x0 x1 x2 x3 x4 x5 x6 l1 H2 H3 Ht
  obtain⟨l1,x0,x1,x2,x3,x4,x5,x6⟩:=KEY.o w4 H4.o
  have KEX:=zh (fun X (hX:CopyX w (boxX a A1 c1 A2 c2 A3 c3) K5 (boxX a a1 e1 a2 e2 a3 e3) a X)=>And.intro (zaZ hX.k1) (zbZ hX.k1))
  have Hy:=zh (fun X (hX:CopyX w (boxX a A1 c1 A2 c2 A3 c3) K5 (boxX a a1 e1 a2 e2 a3 e3) a X)=>(zivZ 20000 a (by have:=Hb.o;omega) 64 _ X X (Nat.le_refl _) (LW.refl hX.one.lw.g hX.one.lw.n) (IsEx.below hX.one.lw.b _ _ Hn.o) (by have:=Hb.o;omega)).mono fun e w' h=>(show e=.returned (.bool (Sx.rightX NM 64 a))∧CopyX w (boxX a A1 c1 A2 c2 A3 c3) K5 (boxX a a1 e1 a2 e2 a3 e3) a w' from⟨h.1,hX.go h.2.b⟩))
  have Hr:=zh (fun X (hX:CopyX w (boxX a A1 c1 A2 c2 A3 c3) K5 (boxX a a1 e1 a2 e2 a3 e3) a X) (hr:Sx.rightX NM 64 a=true)=>(zuoZ 20000 (by omega) a (by have:=Hb.o;omega) ⟨64,hr⟩ Hs.o _ X hX.one.lw.g hX.one.lw.n (IsEx.below hX.one.lw.b _ _ Hn.o)).mono fun e w' h=>(show ∃A9 e9,e=.returned (.slice A9 (Sx.expr SY a).length e9)∧StrRow w' (.slice A9 (Sx.expr SY a).length e9) (Sx.expr SY a)∧CopyX w (boxX a A1 c1 A2 c2 A3 c3) K5 (boxX a a1 e1 a2 e2 a3 e3) a w' from by
   obtain⟨u,h1,h2,h3⟩:=h
   obtain⟨A9,e9,rfl⟩:=h2.slice
   exact⟨A9,e9,h1,h2.row,hX.go h3⟩))
  have Hq:=zh (fun X (hX:CopyX w (boxX a A1 c1 A2 c2 A3 c3) K5 (boxX a a1 e1 a2 e2 a3 e3) a X)=>(zhzZ a _ X hX.one.lw.g.gs hX.one.lw.n hX.ty (by have:=Hb.o;omega) (by have:=Hb.o;have:=Sx.expr_len SY a;omega)).mono fun e w' h=>(show e=.returned (.tuple #[.string ⟨(Sx.said (Sx.rightX NM 64 a) (Sx.expr SY a)).1.toArray⟩,.int .i64 ((Sx.said (Sx.rightX NM 64 a) (Sx.expr SY a)).2:Nat)])∧Below X.heap.size X w'∧CopyX w (boxX a A1 c1 A2 c2 A3 c3) K5 (boxX a a1 e1 a2 e2 a3 e3) a w' from⟨h.1,h.2,hX.go h.2⟩))
  have Hg:=zh (fun X (A9:Option Addr) (n9 e9:Nat) (hX:CopyX w (boxX a A1 c1 A2 c2 A3 c3) K5 (boxX a a1 e1 a2 e2 a3 e3) a X) (hr:Sx.rightX NM 64 a=true→StrRow X (.slice A9 n9 e9) (Sx.expr SY a))=>(zukZ (Sx.rightX NM 64 a) (Sx.expr SY a) A9 n9 e9 X (fun h=>⟨hr h,by have h1:=Sx.expr_len SY a;have:=Hb.o;omega,Sx.lks_ex (by have:=Hb.o;omega) ⟨64,h⟩ Hs.o,Sx.tks_ex ⟨64,h⟩ Hs.o⟩)).mono fun e w' h=>(show e=.returned (.bool true)∧CopyX w (boxX a A1 c1 A2 c2 A3 c3) K5 (boxX a a1 e1 a2 e2 a3 e3) a w' from⟨h.1,hX.go h.2⟩))
  have Hz:=zh (fun X (hX:CopyX w (boxX a A1 c1 A2 c2 A3 c3) K5 (boxX a a1 e1 a2 e2 a3 e3) a X)=>(zglZ _ a (Nat.le_refl _) _ _ X (by have:=Hb.o;omega) (IsEx.below hX.one.lw.b _ _ Hn.o) hX.ty).mono fun e w' h=>(show e=.returned (.bool true)∧CopyX w (boxX a A1 c1 A2 c2 A3 c3) K5 (boxX a a1 e1 a2 e2 a3 e3) a w' from⟨h.1,hX.go h.2⟩))
  have Hv:=zh (fun X (hX:CopyX w (boxX a A1 c1 A2 c2 A3 c3) K5 (boxX a a1 e1 a2 e2 a3 e3) a X)=>Hf.o X hX.one.lw)
  have J3:=zh (show True from trivial)
  obtain⟨rt,hrt⟩:=zE (Sx.rightX NM 64 a)
  obtain⟨tb,htb⟩:∃q,(⟨(Sx.said (Sx.rightX NM 64 a) (Sx.expr SY a)).1.toArray⟩:ByteArray)=q:=⟨_,rfl⟩
  obtain⟨tn,htn⟩:∃q:Int,(((Sx.said (Sx.rightX NM 64 a) (Sx.expr SY a)).2:Nat):Int)=q:=⟨_,rfl⟩
  rw[htb,htn]at Hq Hg
  rw[hrt]at Hy Hr Hg
  clear hrt htb htn
  obtain⟨tl,htl⟩:=zE (Sx.expr SY a)
  rw[htl]at Hr Hg
  clear htl
  go_upto_region 4 with fail
  rw[J0.o]
  clear J0 x0 x1 x2 x3 x4 x5 x6 l1
  obtain⟨l1,x0,x1,x2,x3,x4,x5,x6⟩:=KEY.o w5 H5.o.one
  go_wp2_with fail
  refine(Hy.o w5 H5.o).mono ?_
  rintro e w6 ⟨rfl,Hh⟩
  have H6:=zh Hh
  clear Hh x0 x1 x2 x3 x4 x5 x6 l1
  obtain⟨l1,x0,x1,x2,x3,x4,x5,x6⟩:=KEY.o w6 H6.o.one
  obtain⟨l2,y0,y1,y2,y3,y4,y5,y6⟩:=KEX.o w6 H6.o
  cases rt with
  | false=>
   go_wp2_with (first
    | (go_at_call 23;refine(Hq.o w6 H6.o).mono ?_;rintro e w8 ⟨rfl,Hj,Ha⟩;have Hu:=zh Hj;have H8:=zh Ha;clear Hj Ha x0 x1 x2 x3 x4 x5 x6 l1 l2 y0 y1 y2 y3 y4 y5 y6;obtain⟨l1,x0,x1,x2,x3,x4,x5,x6⟩:=KEY.o w8 H8.o.one;obtain⟨l2,y0,y1,y2,y3,y4,y5,y6⟩:=KEX.o w8 H8.o)
    | (go_at_call 29;refine(Hg.o w8 none 0 0 H8.o (fun h=>by cases h)).mono ?_;rintro e w9 ⟨rfl,H1⟩;have H9:=zh H1;clear H1 x0 x1 x2 x3 x4 x5 x6 l1 l2 y0 y1 y2 y3 y4 y5 y6;obtain⟨l1,x0,x1,x2,x3,x4,x5,x6⟩:=KEY.o w9 H9.o.one;obtain⟨l2,y0,y1,y2,y3,y4,y5,y6⟩:=KEX.o w9 H9.o)
    | (go_at_call 35;refine(Hz.o w9 H9.o).mono ?_;rintro e w10 ⟨rfl,H0⟩;have Ho:=zh H0;clear H0)
    | (go_at_call 3;refine(Hv.o w10 Ho.o).mono ?_;rintro e w11 ⟨rfl,He⟩))
   go_ret
   exact⟨rfl,He⟩
  | true=>
   go_wp2_with (first
    | (go_at_call 34;refine(Hr.o w6 H6.o (by simp)).mono ?_;rintro e w7 ⟨A9,e9,rfl,Hi,Hm⟩;have Hp:=zh Hi;have H7:=zh Hm;clear Hi Hm x0 x1 x2 x3 x4 x5 x6 l1 l2 y0 y1 y2 y3 y4 y5 y6;obtain⟨l1,x0,x1,x2,x3,x4,x5,x6⟩:=KEY.o w7 H7.o.one;obtain⟨l2,y0,y1,y2,y3,y4,y5,y6⟩:=KEX.o w7 H7.o)
    | (go_at_call 23;refine(Hq.o w7 H7.o).mono ?_;rintro e w8 ⟨rfl,Hj,Ha⟩;have Hu:=zh Hj;have H8:=zh Ha;clear Hj Ha x0 x1 x2 x3 x4 x5 x6 l1 l2 y0 y1 y2 y3 y4 y5 y6;obtain⟨l1,x0,x1,x2,x3,x4,x5,x6⟩:=KEY.o w8 H8.o.one;obtain⟨l2,y0,y1,y2,y3,y4,y5,y6⟩:=KEX.o w8 H8.o)
    | (go_at_call 29;refine(Hg.o w8 A9 tl.length e9 H8.o (by intros;exact Hp.o.below Hu.o)).mono ?_;rintro e w9 ⟨rfl,H1⟩;have H9:=zh H1;clear H1 x0 x1 x2 x3 x4 x5 x6 l1 l2 y0 y1 y2 y3 y4 y5 y6;obtain⟨l1,x0,x1,x2,x3,x4,x5,x6⟩:=KEY.o w9 H9.o.one;obtain⟨l2,y0,y1,y2,y3,y4,y5,y6⟩:=KEX.o w9 H9.o)
    | (go_at_call 35;refine(Hz.o w9 H9.o).mono ?_;rintro e w10 ⟨rfl,H0⟩;have Ho:=zh H0;clear H0)
    | (go_at_call 3;refine(Hv.o w10 Ho.o).mono ?_;rintro e w11 ⟨rfl,He⟩))
   go_ret
   exact⟨rfl,He⟩
 ·have ga:(20000:Int)≤(r:Int):=by omega
  have ga2:decide ((20000:Int)≤(r:Int))=true:=by rw[decide_eq_true_iff];omega
  go_wp2_with (go_at_call 3;refine(Hf.o w3 H3.o.lw).mono ?_;rintro e w5 ⟨rfl,Hl⟩)
  go_ret
  exact⟨rfl,Hl⟩
theorem size3 (w:World) (a b c:Obj):(((w.alloc a).alloc b).alloc c).heap.size=w.heap.size+1+1+1:=by simp
theorem zcnZ (k:Int) (x y:Sx.Ex) (v u:Value) (w:World) (hv:IsEx w v x) (hu:IsEx w u y) :
  Calls Tryz.prog 21 #[.int .i64 k,v,u] w fun e w'=>∃g,e=.returned (.agg #[.int .i64 0,.int .i64 k,.int .i64 0,.string ⟨#[]⟩,.slice none 0 0,.slice none 0 0,.slice (some ⟨g,0,none⟩) 2 2])∧ExRow w' (.slice (some ⟨g,0,none⟩) 2 2) [x,y]∧Below w.heap.size w w':=by
 obtain⟨At,ct,An,cn,Ap,cp,rfl,-⟩:=hv.agg
 obtain⟨Bt,dt,Bn,dn,Bp,dp,rfl,-⟩:=hu.agg
 have HV:=zh hv
 have HU:=zh hu
 clear hv hu
 go_enter Tryz.func21, Tryz.ntmps21
 go_wp2
 refine bodyPost_ret (v:=.agg #[.int .i64 0,.int .i64 k,.int .i64 0,.string ⟨#[]⟩,.slice none 0 0,.slice none 0 0,.slice (some ⟨_,0,none⟩) 2 2]) (by simp[results, Tryz.results21,go_sem];rfl) rfl ⟨_,rfl,?_,?_⟩
 ·have hb:Below w.heap.size w (((w.alloc (.cells #[.int .i64 x.pos,.int .i64 x.kind,.int .i64 x.n,.string ⟨x.s.toArray⟩,.slice At x.t.length ct,.slice An x.names.length cn,.slice Ap x.parts.length cp] 39)).alloc
    (.cells #[.int .i64 y.pos,.int .i64 y.kind,.int .i64 y.n,.string ⟨y.s.toArray⟩,.slice Bt y.t.length dt,.slice Bn y.names.length dn,.slice Bp y.parts.length dp] 39)).alloc
    (.cells #[.int .i64 0,.int .i64 k,.int .i64 0,.string ⟨#[]⟩,.slice none 0 0,.slice none 0 0,.slice (some ⟨w.heap.size+1+1+1,0,none⟩) 2 2] 39)):=
   (((Below.refl _ _).alloc (Nat.le_refl _) _).alloc (by simp) _).alloc (by simp;omega) _
  have h:=ExRow.new2 (IsEx.below hb _ _ HV.o) (IsEx.below hb _ _ HU.o)
  rw[size3]at h
  exact h
 ·exact((((Below.refl _ _).alloc (Nat.le_refl _) _).alloc (by simp) _).alloc (by simp;omega) _).alloc (by simp;omega) _
theorem zcsZ (x:Sx.Ex) (s:Lx.Bytes) (v:Value) (w:World) (hG:GS w) (hN:NG≤w.heap.size) (hv:IsEx w v x) (hz:Sx.sizeX x≤1000000) (hlen:(Sx.expr SY x).length≤900000000) (hs:Sx.said (Sx.rightX NM 64 x) (Sx.expr SY x)=(s,0)) :
  Calls Tryz.prog 20 #[v,.string ⟨s.toArray⟩] w fun e w'=>e=.returned (.bool true)∧Below w.heap.size w w':=by
 have hx:=fun X (hX:Below w.heap.size w X)=>zhzZ x v X (hG.below hX) (Nat.le_trans hN hX.size) (IsEx.below hX _ _ hv) hz hlen
 rw[hs]at hx
 obtain⟨At,ct,An,cn,Ap,cp,rfl,-⟩:=hv.agg
 obtain⟨w2,hw2⟩:=zE (w.alloc (.cells #[.int .i64 x.pos,.int .i64 x.kind,.int .i64 x.n,.string ⟨x.s.toArray⟩,.slice At x.t.length ct,.slice An x.names.length cn,.slice Ap x.parts.length cp] 39))
 have H1:Below w.heap.size w w2:=by rw[←hw2];exact zeZ (World.grownBy_alloc w _ none)
 have H0:=heap_alloc_new w (.cells #[.int .i64 x.pos,.int .i64 x.kind,.int .i64 x.n,.string ⟨x.s.toArray⟩,.slice At x.t.length ct,.slice An x.names.length cn,.slice Ap x.parts.length cp] 39)
 rw[hw2]at H0
 obtain⟨x0,x1,x2,x3,x4,x5,x6⟩:=zbZ H0
 have hl:=zaZ H0
 have HX:=zh (hx w2 H1)
 have HB:=zh H1
 clear hx H1 H0 hG hs hlen hz hv
 go_enter Tryz.func20, Tryz.ntmps20
 go_wp2_with (go_at_call 23;refine HX.o.mono ?_;rintro e w3 ⟨rfl,H2⟩)
 go_ret
 exact⟨by simp,HB.o.trans (H2.mono HB.o.size)⟩
end Go.Proofs.YtdncljdfmdgdaaaGreatDoor
namespace Go.Proofs.YtdncljdfmdgdaaaGreatDoor
open Go.RowKit Go.Shelf Go.WideMaps
structure Held1 (L:Nat) (W:World) (cs:Array Value) (t:TypeId) (w:World):Prop where
 b:Below L W w
 b1:w.heap[L]? =some (.cells cs t (0,0))
theorem Held1.go {L:Nat} {W w w':World} {cs:Array Value} {t:TypeId} (h:Held1 L W cs t w) (hb:Below w.heap.size w w'):Held1 L W cs t w':=
 ⟨h.b.trans (hb.mono (Nat.le_of_lt (zaZ h.b1))),(hb.block _ (zaZ h.b1)).trans h.b1⟩
def RightSOk (d:Nat) (s:Sx.St):Prop:=∀(v:Value) (W:World),GS W→NG≤W.heap.size→IsSt W v s→Sx.sizeS s≤1000000→
 Calls Tryz.prog 120 #[v,.int .i64 (d:Nat)] W fun e W'=>e=.returned (.bool (Sx.rightS NM d s))∧Below W.heap.size W W'
def RightSsOk (d:Nat) (l:List Sx.St):Prop:=∀(v:Value) (W:World),GS W→NG≤W.heap.size→StRow W v l→Sx.sizeSs l≤1000000→
 Calls Tryz.prog 65 #[v,.int .i64 (d:Nat)] W fun e W'=>e=.returned (.bool (Sx.rightSs NM d l))∧Below W.heap.size W W'
theorem Sx.rightSs_snoc (N:Sx.Names) (d:Nat):∀(l:List Sx.St) (x:Sx.St),Sx.rightSs N d (l++[x])=(Sx.rightSs N d l&&Sx.rightS N d x)
 | [],x=>by simp[Sx.rightSs]
 | y::l,x=>by
  rw[List.cons_append,Sx.rightSs,Sx.rightSs,Sx.rightSs_snoc N d l x]
  simp[Bool.and_assoc]
theorem Sx.rightSs_pre (N:Sx.Names) (d:Nat):∀(l m:List Sx.St),Sx.rightSs N d l=false→Sx.rightSs N d (l++m)=false
 | [],m,h=>by simp[Sx.rightSs]at h
 | y::l,m,h=>by
  rw[List.cons_append,Sx.rightSs]
  rw[Sx.rightSs]at h
  cases hy:Sx.rightS N d y with
  | false=>rfl
  | true=>
   rw[hy]at h
   rw[Sx.rightSs_pre N d l m (by simpa using h)]
   rfl
theorem zevZ (d:Nat) (hd:d≤64) (l:List Sx.St) (ih:∀s∈l,RightSOk d s):RightSsOk d l:=by
 intro v W hG hN Hj He
 have Hk:=Sx.length_sizeSs l
 obtain⟨A,c,rfl,hcap,hrow⟩:=Hj
 have ht:StRow W (.slice A l.length c) l:=⟨A,c,rfl,hcap,hrow⟩
 obtain⟨k,hk⟩:=zE (l.length)
 rw[hk]at ht ⊢
 have Hm:(k:Int)≤1000000:=by omega
 have Hn:(0:Int)≤(k:Int):=by omega
 obtain⟨e,he⟩:∃e:Int,(d:Int)=e:=⟨_,rfl⟩
 rw[he]
 have HK:=zh hk
 have HP:=zh ht
 have Hi:=zh ih
 have HG:=zh hG
 have HN:=zh hN
 have HE:=zh he
 have HZ:=zh He
 obtain⟨L,hL⟩:=zE (W.heap.size)
 have HL:=zh hL
 clear hG hN ht hk ih he Hk hcap hrow hL He
 go_enter Tryz.func65, Tryz.ntmps65
 go_wp2_with fail
 go_loopg [9] k (fun i v wr=>∃(m:Nat),i=k-m∧v=.int .i64 (m:Int)∧m≤k∧Below L W wr∧Sx.rightSs NM d (l.take m)=true)
 case atStart=>exact⟨0,rfl,rfl,Nat.zero_le _,Below.refl _ _,by simp[Sx.rightSs]⟩
 case round=>
  obtain⟨m,hi,rfl,hmk,hwr,hall⟩:=hrel
  have HI:=zh hi
  have HW:=zh hwr
  have H8:=zh hall
  have hLs:L≤wr.heap.size:=by have:=hwr.size;have:=HL.o;omega
  have m0:(0:Int)≤(m:Int):=by omega
  clear hi hwr hall
  by_cases hlt:m<k
  ·have Hl:(m:Int)<(k:Int):=by omega
   have Ha:m<l.length:=by have:=HK.o;omega
   obtain⟨g,off,At1,ct1,Ax1,cx1,Ab1,cb1,Ae1,ce1,rfl,hty,hc7⟩:=HP.o.spot m Ha
   rw[HL.o]at hc7
   obtain⟨hg,c0,c1,c2,c3,c4,c5,c6⟩:=hc7 wr HW.o
   have Hb:=List.take_succ_eq_append_getElem Ha
   obtain⟨p,hpe⟩:=zE (l[m]'Ha)
   have H5:p∈l:=by rw[←hpe];exact List.getElem_mem Ha
   rw[hpe]at c0 c1 c2 c3 c4 c5 c6 Hb hty
   have Hg:Sx.sizeS p≤1000000:=by have:=Sx.sizeS_mem H5;have:=HZ.o;omega
   have H4:=Sx.rightSs_snoc NM d (l.take m) p
   rw[H8.o,←Hb]at H4
   have H2:=Sx.rightSs_pre NM d (l.take (m+1)) (l.drop (m+1))
   rw[List.take_append_drop]at H2
   obtain⟨w9,hw9⟩:=zE (wr.alloc (.cells #[.int .i64 p.pos,.int .i64 p.kind,.string ⟨p.name.toArray⟩,.slice At1 p.t.length ct1,.slice Ax1 p.x.length cx1,.slice Ab1 p.body.length cb1,.slice Ae1 p.els.length ce1] 69))
   have H3:w9.heap[wr.heap.size]? =some (.cells #[.int .i64 p.pos,.int .i64 p.kind,.string ⟨p.name.toArray⟩,.slice At1 p.t.length ct1,.slice Ax1 p.x.length cx1,.slice Ab1 p.body.length cb1,.slice Ae1 p.els.length ce1] 69 (0,0)):=by rw[←hw9];exact heap_alloc_new wr _
   have Hd:Below L W w9:=HW.o.trans ((by rw[←hw9];exact zeZ (World.grownBy_alloc wr _ none):Below wr.heap.size wr w9).mono hLs)
   have Hh:Calls Tryz.prog 120 #[.agg #[.int .i64 p.pos,.int .i64 p.kind,.string ⟨p.name.toArray⟩,.slice At1 p.t.length ct1,.slice Ax1 p.x.length cx1,.slice Ab1 p.body.length cb1,.slice Ae1 p.els.length ce1],.int .i64 e] w9 fun e X'=>e=.returned (.bool (Sx.rightS NM d p))∧Below w9.heap.size w9 X':=by
    rw[←HE.o]
    have hB:Below W.heap.size W w9:=by rw[HL.o];exact Hd
    exact Hi.o p H5 _ w9 (HG.o.below hB) (Nat.le_trans HN.o hB.size) (IsSt.below hB p _ hty) Hg
   have H9:=zh Hh
   have Hf:=zh Hd
   have H0:=zh H4
   have H7:=zh H2
   obtain⟨z0,z1,z2,z3,z4,z5,z6⟩:=zbZ H3
   have Ho:=zaZ H3
   have H6:L≤w9.heap.size:=by omega
   clear Hh H4 H2 Hb hc7 hty hpe H5 Hg H3 Hd
   cases hr:Sx.rightS NM d p with
   | true=>
    rw[hr]at H9 H0
    clear hr
    go_wp2_with (go_at_call 120;refine H9.o.mono ?_;rintro e w11 ⟨rfl,H1⟩)
    have Hc:=zh (Hf.o.trans (H1.mono H6))
    clear H1
    go_roundg (k-(m+1))
    case measure=>have:=HI.o;omega
    case rel=>exact⟨m+1,rfl,by simp,hlt,Hc.o,H0.o⟩
   | false=>
    rw[hr]at H9 H0
    have HF:=zh (H7.o H0.o)
    clear hr
    go_wp2_with (go_at_call 120;refine H9.o.mono ?_;rintro e w11 ⟨rfl,H1⟩)
    have Hc:=zh (Hf.o.trans (H1.mono H6))
    clear H1
    go_ret
    rw[HF.o,HL.o]
    exact⟨rfl,Hc.o⟩
  ·have Hl:¬(m:Int)<(k:Int):=by omega
   have HF:=zh (show Sx.rightSs NM d l=true by
    have h:=H8.o
    rwa [List.take_of_length_le (by have:=HK.o;omega)]at h)
   go_wp2_with fail
   go_ret
   rw[HF.o,HL.o]
   exact⟨rfl,HW.o⟩
def Sx.restS (k:Int) (sm nE:Bool) (tl:Nat) (rt:Bool) (bl el:Nat) (rb re:Bool):Bool:=
 decide (1≤k∧k≤7)&&((if k=1∨k=2 then sm else nE)&&((decide (tl=0)||(decide (k=1)&&(decide (tl=1)&&rt)))&&((decide (k=4∨k=5)||decide (bl=0))&&((decide (k=4)||decide (el=0))&&(rb&&re)))))
def Sx.head0 (x:List Sx.Ex):Bool:=match x with | []=>true | p::_=>Sx.rightX NM 64 p
theorem Sx.head0_at:∀(x:List Sx.Ex) (h:0<x.length),Sx.rightX NM 64 (x[0]'h)=Sx.head0 x
 | a::l,h=>rfl
theorem Sx.isE {α:Type} (l:List α):l.isEmpty=decide (l.length=0):=by cases l <;> simp
theorem Sx.rightS_eq (d:Nat) (s:Sx.St):Sx.rightS NM d s=(decide (d≠0)&&(decide (s.x.length=1)&&(Sx.head0 s.x&&Sx.restS s.kind (NM.small s.name) s.name.isEmpty s.t.length (Sx.right0 s.t) s.body.length s.els.length (Sx.rightSs NM (d-1) s.body) (Sx.rightSs NM (d-1) s.els)))):=by
 cases s with
 | mk pos k nm t x b e=>
  cases d with
  | zero=>simp[Sx.rightS]
  | succ d=>
   rw[Sx.rightS]
   show _=(decide (d+1≠0)&&(decide (x.length=1)&&(Sx.head0 x&&Sx.restS k (NM.small nm) nm.isEmpty t.length (Sx.right0 t) b.length e.length (Sx.rightSs NM (d+1-1) b) (Sx.rightSs NM (d+1-1) e))))
   unfold Sx.shapeS Sx.restS
   rw[Sx.isE b,Sx.isE e,Sx.isE t]
   have hx:(x.length==1&&Sx.rightXs NM 64 64 x)=(decide (x.length=1)&&Sx.head0 x):=by
    match x with
    | []=>simp
    | [a]=>simp[Sx.rightXs,Sx.head0]
    | a::c::l=>simp
   have ht:(decide (t.length=0)||(decide (k=1)&&(t.length==1&&Sx.rightTs NM 64 t)))=(decide (t.length=0)||(decide (k=1)&&(decide (t.length=1)&&Sx.right0 t))):=by
    match t with
    | []=>simp
    | [a]=>simp[Sx.rightTs,Sx.right0]
    | a::c::l=>simp
   rw[hx,ht]
   simp[Bool.and_assoc]
   cases decide (x.length=1) <;> cases Sx.head0 x <;> simp
theorem znxZ (d:Nat) (hd:d≤64) (s:Sx.St) (ihb:∀d,d≤64→RightSsOk d s.body) (ihe:∀d,d≤64→RightSsOk d s.els):RightSOk d s:=by
 intro v W hG hN J3 Jj
 obtain⟨At,ct,Ax,cx,Ab,cb,Ae,ce,rfl,htt,hxx,hbb,hee⟩:=J3.agg
 have Je:=Sx.sizeS_parts s
 have Jd:=Sx.length_sizeXs s.x
 have Hz:=Sx.length_size s.t
 have J7:=Sx.length_sizeSs s.body
 have Jl:=Sx.length_sizeSs s.els
 have Hw:=Sx.rightS_eq d s
 have hTY:=fun(p:Sx.Ty) (hp:p∈s.t) u X hX hu=>zeoZ 64 (by omega) p u X (hG.below hX) (Nat.le_trans hN hX.size) hu (by have:=Sx.size_mem hp;omega)
 have hEX:=fun(p:Sx.Ex) (hp:p∈s.x) u X hX hu=>zdqZ _ p (Nat.le_refl _) 64 (by omega) u X (hG.below hX) (Nat.le_trans hN hX.size) hu (by have:=Sx.sizeX_mem hp;omega)
 have hNA:=fun X (hX:Below W.heap.size W X)=>zmfZ s.name X (hG.below hX) (Nat.le_trans hN hX.size) (by omega)
 obtain⟨e,he⟩:∃e:Int,(d:Int)=e:=⟨_,rfl⟩
 have hBO:∀X,Below W.heap.size W X→1≤d→Calls Tryz.prog 65 #[.slice Ab s.body.length cb,.int .i64 (e-1)] X fun e X'=>e=.returned (.bool (Sx.rightSs NM (d-1) s.body))∧Below X.heap.size X X':=fun X hX h1=>by
  rw[show e-1=((d-1:Nat):Int)by omega]
  exact ihb (d-1) (by omega) _ X (hG.below hX) (Nat.le_trans hN hX.size) (hbb.below hX) (by omega)
 have hEL:∀X,Below W.heap.size W X→1≤d→Calls Tryz.prog 65 #[.slice Ae s.els.length ce,.int .i64 (e-1)] X fun e X'=>e=.returned (.bool (Sx.rightSs NM (d-1) s.els))∧Below X.heap.size X X':=fun X hX h1=>by
  rw[show e-1=((d-1:Nat):Int)by omega]
  exact ihe (d-1) (by omega) _ X (hG.below hX) (Nat.le_trans hN hX.size) (hee.below hX) (by omega)
 obtain⟨sm,hsm⟩:=zE (NM.small s.name)
 obtain⟨nE,hnE⟩:=zE (s.name.isEmpty)
 obtain⟨rt,hrt⟩:=zE (Sx.right0 s.t)
 obtain⟨rx,hrx0⟩:=zE (Sx.head0 s.x)
 obtain⟨rb,hrb⟩:=zE (Sx.rightSs NM (d-1) s.body)
 obtain⟨re,hre⟩:=zE (Sx.rightSs NM (d-1) s.els)
 rw[hsm,hnE,hrt,hrx0,hrb,hre]at Hw
 rw[hsm]at hNA
 rw[hrb]at hBO
 rw[hre]at hEL
 have hT0:∀(h:0<s.t.length),Sx.rightT NM 64 (s.t[0]'h)=rt:=fun h=>by rw[←hrt];exact Sx.right0_head _ h
 have hX0:∀(h:0<s.x.length),Sx.rightX NM 64 (s.x[0]'h)=rx:=fun h=>by rw[←hrx0];exact Sx.head0_at _ h
 obtain⟨kd,hkd⟩:=zE (s.kind)
 obtain⟨tl,htl⟩:=zE (s.t.length)
 obtain⟨xl,hxl'⟩:∃k,s.x.length=k:=⟨_,rfl⟩
 obtain⟨bl,hbl'⟩:∃k,s.body.length=k:=⟨_,rfl⟩
 obtain⟨el,hel'⟩:∃k,s.els.length=k:=⟨_,rfl⟩
 have b1:(tl:Int)≤1000000:=by omega
 have b2:(xl:Int)≤1000000:=by omega
 have b3:(bl:Int)≤1000000:=by omega
 have b4:(el:Int)≤1000000:=by omega
 have b5:(0:Int)≤(tl:Int):=by omega
 have b6:(0:Int)≤(xl:Int):=by omega
 have b7:(0:Int)≤(bl:Int):=by omega
 have b8:(0:Int)≤(el:Int):=by omega
 have Js:(0:Int)≤e:=by omega
 have Jf:e≤64:=by omega
 rw[hkd,htl,hxl',hbl',hel']at Hw
 rw[he,hkd,htl,hxl',hbl',hel']
 rw[htl]at htt
 rw[hxl']at hxx
 rw[hbl']at hBO
 rw[hel']at hEL
 have Jb:=zh hTY
 have Ji:=zh hEX
 have J8:=zh hNA
 have Jc:=zh hBO
 have Jo:=zh hEL
 have Ja:=zh hT0
 have Jk:=zh hX0
 have Jg:=zh htt
 have J6:=zh hxx
 have H9:=zh Hw
 have Jm:=zh htl
 have J9:=zh hxl'
 have HE:=zh he
 have Hh:=zh hnE
 have J2:=zh hsm
 obtain⟨L,hL⟩:=zE (W.heap.size)
 obtain⟨w2,hw2⟩:=zE (W.alloc (.cells #[.int .i64 s.pos,.int .i64 kd,.string ⟨s.name.toArray⟩,.slice At tl ct,.slice Ax xl cx,.slice Ab bl cb,.slice Ae el ce] 69))
 have J4:Held1 L W #[.int .i64 s.pos,.int .i64 kd,.string ⟨s.name.toArray⟩,.slice At tl ct,.slice Ax xl cx,.slice Ab bl cb,.slice Ae el ce] 69 w2:=⟨by rw[←hw2,←hL];exact zeZ (World.grownBy_alloc W _ none),by rw[←hw2,←hL];exact heap_alloc_new W _⟩
 have H2:=zh J4
 have HL:=zh hL
 clear J4 hTY hEX hNA hBO hEL hT0 hX0 htt hxx hbb hee Hw htl hxl' hbl' hel' he J3 Jj Je Jd Hz J7 Jl hsm hnE hrt hrx0 hrb hre hkd hG hN ihb ihe hd
 obtain⟨x0,x1,x2,x3,x4,x5,x6⟩:=zbZ H2.o.b1
 have H1:=zaZ H2.o.b1
 have h6:=HL.o
 by_cases hd0:d=0
 ·obtain rfl:e=0:=by have:=HE.o;omega
  go_enter Tryz.func120, Tryz.ntmps120
  go_wp2_with fail
  go_ret
  rw[H9.o]
  try rw[HL.o]
  exact⟨by simp[Sx.restS,hd0],H2.o.b⟩
 have e0:(e==0)=false:=by rw[beq_eq_false_iff_ne];have:=HE.o;omega
 have Jt:1≤e:=by have:=HE.o;omega
 have J5:1≤d:=by omega
 by_cases hx1:xl=1
 rotate_left
 ·have Jq:((xl:Int) != 1)=true:=by rw[bne_iff_ne];omega
  have Jp:¬(xl:Int)=1:=by omega
  go_enter Tryz.func120, Tryz.ntmps120
  go_wp2_with fail
  go_ret
  rw[H9.o]
  try rw[HL.o]
  exact⟨by simp[Sx.restS,hx1],H2.o.b⟩
 subst hx1
 have Hx:0<s.x.length:=by have:=J9.o;omega
 obtain⟨gX,offX,AtX,ctX,AnX,cnX,AqX,cqX,rfl,htyX,hcX⟩:=J6.o.spot 0 Hx
 rw[HL.o]at hcX
 obtain⟨dgX,q0,q1,q2,q3,q4,q5,q6⟩:=hcX _ H2.o.b
 rw[Nat.zero_mul,Nat.add_zero]at q0 q1 q2 q3 q4 q5 q6
 have Hl:=Ji.o _ (List.getElem_mem Hx) _ _ (by rw[HL.o];exact H2.o.b) (IsEx.below (by rw[HL.o];exact H2.o.b) _ _ htyX)
 rw[Jk.o Hx]at Hl
 obtain⟨pX,hpX⟩:=zE (s.x[0]'Hx)
 rw[hpX]at q0 q1 q2 q3 q4 q5 q6 Hl
 have Hu:=zh Hl
 clear hcX htyX Hl hpX
 cases rx with
 | false=>
  go_enter Tryz.func120, Tryz.ntmps120
  go_wp2_with (go_at_call 63;refine Hu.o.mono ?_;rintro e w3 ⟨rfl,Hq⟩;have H3:=zh (H2.o.go Hq);clear Hq;clear x0 x1 x2 x3 x4 x5 x6 H1;obtain⟨x0,x1,x2,x3,x4,x5,x6⟩:=zbZ H3.o.b1;have H1:=zaZ H3.o.b1)
  go_ret
  rw[H9.o]
  try rw[HL.o]
  exact⟨by simp[Sx.restS],H3.o.b⟩
 | true=>
  go_enter Tryz.func120, Tryz.ntmps120
  go_upto_region 3 with(go_at_call 63;refine Hu.o.mono ?_;rintro e w3 ⟨rfl,Hq⟩;have H3:=zh (H2.o.go Hq);clear Hq;clear x0 x1 x2 x3 x4 x5 x6 H1;obtain⟨x0,x1,x2,x3,x4,x5,x6⟩:=zbZ H3.o.b1;have H1:=zaZ H3.o.b1)
  clear q0 q1 q2 q3 q4 q5 q6 dgX
  have Ha:=zh (J8.o _ (by rw[HL.o];exact H3.o.b))
  have Hs:=fun(X:World) (hX:Below L W X)=>Jc.o X (by rw[HL.o];exact hX) J5
  have Ht:=fun(X:World) (hX:Below L W X)=>Jo.o X (by rw[HL.o];exact hX) J5
  have Hc:=zh Hs
  have Hf:=zh Ht
  clear Hs Ht
  by_cases hk1:kd=1
  ·subst hk1
   cases nE with
   | true=>
    have Hg:=Hh.o
    have Hn:sm=false:=by
     cases sm with
     | false=>rfl
     | true=>exact absurd (List.isEmpty_iff.1 Hg) (NM.ok.small _ J2.o)
    subst Hn
    go_wp2_with fail
    go_ret
    rw[H9.o]
    try rw[HL.o]
    exact⟨by simp[Sx.restS,hd0],H3.o.b⟩
   | false=>
    have Hg:=Hh.o
    cases sm with
    | true=>
     rcases Nat.eq_zero_or_pos tl with hztl | hztl
     ·subst hztl
      rcases Nat.eq_zero_or_pos bl with hzbl | hzbl
      ·subst hzbl
       rcases Nat.eq_zero_or_pos el with hzel | hzel
       ·subst hzel
        cases rb with
        | true=>
         cases re with
         | true=>
          go_wp2_with (first | (go_at_call 132;refine Ha.o.mono ?_;rintro e w4 ⟨rfl,H0⟩;have H4:=zh (H3.o.go H0);clear H0;clear x0 x1 x2 x3 x4 x5 x6 H1;obtain⟨x0,x1,x2,x3,x4,x5,x6⟩:=zbZ H4.o.b1;have H1:=zaZ H4.o.b1) | (go_at_call 65;(with_reducible refine(Hc.o _ H4.o.b).mono ?_);rintro e w5 ⟨rfl,H8⟩;have H5:=zh (H4.o.go H8);clear H8;clear x0 x1 x2 x3 x4 x5 x6 H1;obtain⟨x0,x1,x2,x3,x4,x5,x6⟩:=zbZ H5.o.b1;have H1:=zaZ H5.o.b1) | (go_at_call 65;(with_reducible refine(Hf.o _ H5.o.b).mono ?_);rintro e w6 ⟨rfl,He⟩;have H6:=zh (H5.o.go He);clear He))
          go_ret
          rw[H9.o]
          try rw[HL.o]
          exact⟨by simp[Sx.restS,hd0],H6.o.b⟩
         | false=>
          go_wp2_with (first | (go_at_call 132;refine Ha.o.mono ?_;rintro e w4 ⟨rfl,H0⟩;have H4:=zh (H3.o.go H0);clear H0;clear x0 x1 x2 x3 x4 x5 x6 H1;obtain⟨x0,x1,x2,x3,x4,x5,x6⟩:=zbZ H4.o.b1;have H1:=zaZ H4.o.b1) | (go_at_call 65;(with_reducible refine(Hc.o _ H4.o.b).mono ?_);rintro e w5 ⟨rfl,H8⟩;have H5:=zh (H4.o.go H8);clear H8;clear x0 x1 x2 x3 x4 x5 x6 H1;obtain⟨x0,x1,x2,x3,x4,x5,x6⟩:=zbZ H5.o.b1;have H1:=zaZ H5.o.b1) | (go_at_call 65;(with_reducible refine(Hf.o _ H5.o.b).mono ?_);rintro e w6 ⟨rfl,He⟩;have H6:=zh (H5.o.go He);clear He))
          go_ret
          rw[H9.o]
          try rw[HL.o]
          exact⟨by simp[Sx.restS,hd0],H6.o.b⟩
        | false=>
         go_wp2_with (first | (go_at_call 132;refine Ha.o.mono ?_;rintro e w4 ⟨rfl,H0⟩;have H4:=zh (H3.o.go H0);clear H0;clear x0 x1 x2 x3 x4 x5 x6 H1;obtain⟨x0,x1,x2,x3,x4,x5,x6⟩:=zbZ H4.o.b1;have H1:=zaZ H4.o.b1) | (go_at_call 65;(with_reducible refine(Hc.o _ H4.o.b).mono ?_);rintro e w5 ⟨rfl,H8⟩;have H5:=zh (H4.o.go H8);clear H8;clear x0 x1 x2 x3 x4 x5 x6 H1;obtain⟨x0,x1,x2,x3,x4,x5,x6⟩:=zbZ H5.o.b1;have H1:=zaZ H5.o.b1))
         go_ret
         rw[H9.o]
         try rw[HL.o]
         exact⟨by simp[Sx.restS,hd0],H5.o.b⟩
       ·have Hi:(0:Int)<(el:Int):=by omega
        have Hb:¬el=0:=by omega
        go_wp2_with (first | (go_at_call 132;refine Ha.o.mono ?_;rintro e w4 ⟨rfl,H0⟩;have H4:=zh (H3.o.go H0);clear H0;clear x0 x1 x2 x3 x4 x5 x6 H1;obtain⟨x0,x1,x2,x3,x4,x5,x6⟩:=zbZ H4.o.b1;have H1:=zaZ H4.o.b1))
        go_ret
        rw[H9.o]
        try rw[HL.o]
        exact⟨by simp[Sx.restS,hd0,Hb],H4.o.b⟩
      ·have Hk:(0:Int)<(bl:Int):=by omega
       have Hd:¬bl=0:=by omega
       go_wp2_with (first | (go_at_call 132;refine Ha.o.mono ?_;rintro e w4 ⟨rfl,H0⟩;have H4:=zh (H3.o.go H0);clear H0;clear x0 x1 x2 x3 x4 x5 x6 H1;obtain⟨x0,x1,x2,x3,x4,x5,x6⟩:=zbZ H4.o.b1;have H1:=zaZ H4.o.b1))
       go_ret
       rw[H9.o]
       try rw[HL.o]
       exact⟨by simp[Sx.restS,hd0,Hd],H4.o.b⟩
     ·by_cases ht1:tl=1
      ·subst ht1
       have Hv:0<s.t.length:=by have:=Jm.o;omega
       obtain⟨gT,offT,AnT,cnT,AeT,ceT,AqT,cqT,rfl,htyT,hcT⟩:=Jg.o.spot 0 Hv
       rw[HL.o]at hcT
       have Jn:=zh htyT
       have Ho:=zh hcT
       have Hm:=zh (fun X (hX:Below L W X)=>Jb.o _ (List.getElem_mem Hv) _ X (by rw[HL.o];exact hX) (Jn.o.below (by rw[HL.o];exact hX)))
       rw[Ja.o Hv]at Hm
       obtain⟨pT,hpT⟩:=zE (s.t[0]'Hv)
       rw[hpT]at Ho Hm
       clear htyT hcT hpT
       cases rt with
       | true=>
        rcases Nat.eq_zero_or_pos bl with hzbl | hzbl
        ·subst hzbl
         rcases Nat.eq_zero_or_pos el with hzel | hzel
         ·subst hzel
          cases rb with
          | true=>
           cases re with
           | true=>
            go_wp2_with (first | (go_at_call 132;refine Ha.o.mono ?_;rintro e w4 ⟨rfl,H0⟩;have H4:=zh (H3.o.go H0);clear H0;clear x0 x1 x2 x3 x4 x5 x6 H1;obtain⟨x0,x1,x2,x3,x4,x5,x6⟩:=zbZ H4.o.b1;have H1:=zaZ H4.o.b1;obtain⟨dgT,r0,r1,r2,r3,r4⟩:=Ho.o _ H4.o.b;rw[Nat.zero_mul,Nat.add_zero]at r0 r1 r2 r3 r4) | (go_at_call 58;refine(Hm.o _ H4.o.b).mono ?_;rintro e w5 ⟨rfl,H8⟩;have H5:=zh (H4.o.go H8);clear H8 r0 r1 r2 r3 r4 dgT;clear x0 x1 x2 x3 x4 x5 x6 H1;obtain⟨x0,x1,x2,x3,x4,x5,x6⟩:=zbZ H5.o.b1;have H1:=zaZ H5.o.b1) | (go_at_call 65;(with_reducible refine(Hc.o _ H5.o.b).mono ?_);rintro e w6 ⟨rfl,He⟩;have H6:=zh (H5.o.go He);clear He;clear x0 x1 x2 x3 x4 x5 x6 H1;obtain⟨x0,x1,x2,x3,x4,x5,x6⟩:=zbZ H6.o.b1;have H1:=zaZ H6.o.b1) | (go_at_call 65;(with_reducible refine(Hf.o _ H6.o.b).mono ?_);rintro e w7 ⟨rfl,Hr⟩;have H7:=zh (H6.o.go Hr);clear Hr))
            go_ret
            rw[H9.o]
            try rw[HL.o]
            exact⟨by simp[Sx.restS,hd0],H7.o.b⟩
           | false=>
            go_wp2_with (first | (go_at_call 132;refine Ha.o.mono ?_;rintro e w4 ⟨rfl,H0⟩;have H4:=zh (H3.o.go H0);clear H0;clear x0 x1 x2 x3 x4 x5 x6 H1;obtain⟨x0,x1,x2,x3,x4,x5,x6⟩:=zbZ H4.o.b1;have H1:=zaZ H4.o.b1;obtain⟨dgT,r0,r1,r2,r3,r4⟩:=Ho.o _ H4.o.b;rw[Nat.zero_mul,Nat.add_zero]at r0 r1 r2 r3 r4) | (go_at_call 58;refine(Hm.o _ H4.o.b).mono ?_;rintro e w5 ⟨rfl,H8⟩;have H5:=zh (H4.o.go H8);clear H8 r0 r1 r2 r3 r4 dgT;clear x0 x1 x2 x3 x4 x5 x6 H1;obtain⟨x0,x1,x2,x3,x4,x5,x6⟩:=zbZ H5.o.b1;have H1:=zaZ H5.o.b1) | (go_at_call 65;(with_reducible refine(Hc.o _ H5.o.b).mono ?_);rintro e w6 ⟨rfl,He⟩;have H6:=zh (H5.o.go He);clear He;clear x0 x1 x2 x3 x4 x5 x6 H1;obtain⟨x0,x1,x2,x3,x4,x5,x6⟩:=zbZ H6.o.b1;have H1:=zaZ H6.o.b1) | (go_at_call 65;(with_reducible refine(Hf.o _ H6.o.b).mono ?_);rintro e w7 ⟨rfl,Hr⟩;have H7:=zh (H6.o.go Hr);clear Hr))
            go_ret
            rw[H9.o]
            try rw[HL.o]
            exact⟨by simp[Sx.restS,hd0],H7.o.b⟩
          | false=>
           go_wp2_with (first | (go_at_call 132;refine Ha.o.mono ?_;rintro e w4 ⟨rfl,H0⟩;have H4:=zh (H3.o.go H0);clear H0;clear x0 x1 x2 x3 x4 x5 x6 H1;obtain⟨x0,x1,x2,x3,x4,x5,x6⟩:=zbZ H4.o.b1;have H1:=zaZ H4.o.b1;obtain⟨dgT,r0,r1,r2,r3,r4⟩:=Ho.o _ H4.o.b;rw[Nat.zero_mul,Nat.add_zero]at r0 r1 r2 r3 r4) | (go_at_call 58;refine(Hm.o _ H4.o.b).mono ?_;rintro e w5 ⟨rfl,H8⟩;have H5:=zh (H4.o.go H8);clear H8 r0 r1 r2 r3 r4 dgT;clear x0 x1 x2 x3 x4 x5 x6 H1;obtain⟨x0,x1,x2,x3,x4,x5,x6⟩:=zbZ H5.o.b1;have H1:=zaZ H5.o.b1) | (go_at_call 65;(with_reducible refine(Hc.o _ H5.o.b).mono ?_);rintro e w6 ⟨rfl,He⟩;have H6:=zh (H5.o.go He);clear He;clear x0 x1 x2 x3 x4 x5 x6 H1;obtain⟨x0,x1,x2,x3,x4,x5,x6⟩:=zbZ H6.o.b1;have H1:=zaZ H6.o.b1))
           go_ret
           rw[H9.o]
           try rw[HL.o]
           exact⟨by simp[Sx.restS,hd0],H6.o.b⟩
         ·have Hi:(0:Int)<(el:Int):=by omega
          have Hb:¬el=0:=by omega
          go_wp2_with (first | (go_at_call 132;refine Ha.o.mono ?_;rintro e w4 ⟨rfl,H0⟩;have H4:=zh (H3.o.go H0);clear H0;clear x0 x1 x2 x3 x4 x5 x6 H1;obtain⟨x0,x1,x2,x3,x4,x5,x6⟩:=zbZ H4.o.b1;have H1:=zaZ H4.o.b1;obtain⟨dgT,r0,r1,r2,r3,r4⟩:=Ho.o _ H4.o.b;rw[Nat.zero_mul,Nat.add_zero]at r0 r1 r2 r3 r4) | (go_at_call 58;refine(Hm.o _ H4.o.b).mono ?_;rintro e w5 ⟨rfl,H8⟩;have H5:=zh (H4.o.go H8);clear H8 r0 r1 r2 r3 r4 dgT;clear x0 x1 x2 x3 x4 x5 x6 H1;obtain⟨x0,x1,x2,x3,x4,x5,x6⟩:=zbZ H5.o.b1;have H1:=zaZ H5.o.b1))
          go_ret
          rw[H9.o]
          try rw[HL.o]
          exact⟨by simp[Sx.restS,hd0,Hb],H5.o.b⟩
        ·have Hk:(0:Int)<(bl:Int):=by omega
         have Hd:¬bl=0:=by omega
         go_wp2_with (first | (go_at_call 132;refine Ha.o.mono ?_;rintro e w4 ⟨rfl,H0⟩;have H4:=zh (H3.o.go H0);clear H0;clear x0 x1 x2 x3 x4 x5 x6 H1;obtain⟨x0,x1,x2,x3,x4,x5,x6⟩:=zbZ H4.o.b1;have H1:=zaZ H4.o.b1;obtain⟨dgT,r0,r1,r2,r3,r4⟩:=Ho.o _ H4.o.b;rw[Nat.zero_mul,Nat.add_zero]at r0 r1 r2 r3 r4) | (go_at_call 58;refine(Hm.o _ H4.o.b).mono ?_;rintro e w5 ⟨rfl,H8⟩;have H5:=zh (H4.o.go H8);clear H8 r0 r1 r2 r3 r4 dgT;clear x0 x1 x2 x3 x4 x5 x6 H1;obtain⟨x0,x1,x2,x3,x4,x5,x6⟩:=zbZ H5.o.b1;have H1:=zaZ H5.o.b1))
         go_ret
         rw[H9.o]
         try rw[HL.o]
         exact⟨by simp[Sx.restS,hd0,Hd],H5.o.b⟩
       | false=>
        go_wp2_with (first | (go_at_call 132;refine Ha.o.mono ?_;rintro e w4 ⟨rfl,H0⟩;have H4:=zh (H3.o.go H0);clear H0;clear x0 x1 x2 x3 x4 x5 x6 H1;obtain⟨x0,x1,x2,x3,x4,x5,x6⟩:=zbZ H4.o.b1;have H1:=zaZ H4.o.b1;obtain⟨dgT,r0,r1,r2,r3,r4⟩:=Ho.o _ H4.o.b;rw[Nat.zero_mul,Nat.add_zero]at r0 r1 r2 r3 r4) | (go_at_call 58;refine(Hm.o _ H4.o.b).mono ?_;rintro e w5 ⟨rfl,H8⟩;have H5:=zh (H4.o.go H8);clear H8 r0 r1 r2 r3 r4 dgT;clear x0 x1 x2 x3 x4 x5 x6 H1;obtain⟨x0,x1,x2,x3,x4,x5,x6⟩:=zbZ H5.o.b1;have H1:=zaZ H5.o.b1))
        go_ret
        rw[H9.o]
        try rw[HL.o]
        exact⟨by simp[Sx.restS,hd0],H5.o.b⟩
      ·have Hp:(1:Int)<(tl:Int):=by omega
       have Hj:¬tl=0:=by omega
       go_wp2_with (first | (go_at_call 132;refine Ha.o.mono ?_;rintro e w4 ⟨rfl,H0⟩;have H4:=zh (H3.o.go H0);clear H0;clear x0 x1 x2 x3 x4 x5 x6 H1;obtain⟨x0,x1,x2,x3,x4,x5,x6⟩:=zbZ H4.o.b1;have H1:=zaZ H4.o.b1))
       go_ret
       rw[H9.o]
       try rw[HL.o]
       exact⟨by simp[Sx.restS,hd0,Hj,ht1],H4.o.b⟩
    | false=>
     go_wp2_with (first | (go_at_call 132;refine Ha.o.mono ?_;rintro e w4 ⟨rfl,H0⟩;have H4:=zh (H3.o.go H0);clear H0;clear x0 x1 x2 x3 x4 x5 x6 H1;obtain⟨x0,x1,x2,x3,x4,x5,x6⟩:=zbZ H4.o.b1;have H1:=zaZ H4.o.b1))
     go_ret
     rw[H9.o]
     try rw[HL.o]
     exact⟨by simp[Sx.restS,hd0],H4.o.b⟩
  by_cases hk2:kd=2
  ·subst hk2
   cases nE with
   | true=>
    have Hg:=Hh.o
    have Hn:sm=false:=by
     cases sm with
     | false=>rfl
     | true=>exact absurd (List.isEmpty_iff.1 Hg) (NM.ok.small _ J2.o)
    subst Hn
    go_wp2_with fail
    go_ret
    rw[H9.o]
    try rw[HL.o]
    exact⟨by simp[Sx.restS,hd0],H3.o.b⟩
   | false=>
    have Hg:=Hh.o
    cases sm with
    | true=>
     rcases Nat.eq_zero_or_pos tl with hztl | hztl
     ·subst hztl
      rcases Nat.eq_zero_or_pos bl with hzbl | hzbl
      ·subst hzbl
       rcases Nat.eq_zero_or_pos el with hzel | hzel
       ·subst hzel
        cases rb with
        | true=>
         cases re with
         | true=>
          go_wp2_with (first | (go_at_call 132;refine Ha.o.mono ?_;rintro e w4 ⟨rfl,H0⟩;have H4:=zh (H3.o.go H0);clear H0;clear x0 x1 x2 x3 x4 x5 x6 H1;obtain⟨x0,x1,x2,x3,x4,x5,x6⟩:=zbZ H4.o.b1;have H1:=zaZ H4.o.b1) | (go_at_call 65;(with_reducible refine(Hc.o _ H4.o.b).mono ?_);rintro e w5 ⟨rfl,H8⟩;have H5:=zh (H4.o.go H8);clear H8;clear x0 x1 x2 x3 x4 x5 x6 H1;obtain⟨x0,x1,x2,x3,x4,x5,x6⟩:=zbZ H5.o.b1;have H1:=zaZ H5.o.b1) | (go_at_call 65;(with_reducible refine(Hf.o _ H5.o.b).mono ?_);rintro e w6 ⟨rfl,He⟩;have H6:=zh (H5.o.go He);clear He))
          go_ret
          rw[H9.o]
          try rw[HL.o]
          exact⟨by simp[Sx.restS,hd0],H6.o.b⟩
         | false=>
          go_wp2_with (first | (go_at_call 132;refine Ha.o.mono ?_;rintro e w4 ⟨rfl,H0⟩;have H4:=zh (H3.o.go H0);clear H0;clear x0 x1 x2 x3 x4 x5 x6 H1;obtain⟨x0,x1,x2,x3,x4,x5,x6⟩:=zbZ H4.o.b1;have H1:=zaZ H4.o.b1) | (go_at_call 65;(with_reducible refine(Hc.o _ H4.o.b).mono ?_);rintro e w5 ⟨rfl,H8⟩;have H5:=zh (H4.o.go H8);clear H8;clear x0 x1 x2 x3 x4 x5 x6 H1;obtain⟨x0,x1,x2,x3,x4,x5,x6⟩:=zbZ H5.o.b1;have H1:=zaZ H5.o.b1) | (go_at_call 65;(with_reducible refine(Hf.o _ H5.o.b).mono ?_);rintro e w6 ⟨rfl,He⟩;have H6:=zh (H5.o.go He);clear He))
          go_ret
          rw[H9.o]
          try rw[HL.o]
          exact⟨by simp[Sx.restS,hd0],H6.o.b⟩
        | false=>
         go_wp2_with (first | (go_at_call 132;refine Ha.o.mono ?_;rintro e w4 ⟨rfl,H0⟩;have H4:=zh (H3.o.go H0);clear H0;clear x0 x1 x2 x3 x4 x5 x6 H1;obtain⟨x0,x1,x2,x3,x4,x5,x6⟩:=zbZ H4.o.b1;have H1:=zaZ H4.o.b1) | (go_at_call 65;(with_reducible refine(Hc.o _ H4.o.b).mono ?_);rintro e w5 ⟨rfl,H8⟩;have H5:=zh (H4.o.go H8);clear H8;clear x0 x1 x2 x3 x4 x5 x6 H1;obtain⟨x0,x1,x2,x3,x4,x5,x6⟩:=zbZ H5.o.b1;have H1:=zaZ H5.o.b1))
         go_ret
         rw[H9.o]
         try rw[HL.o]
         exact⟨by simp[Sx.restS,hd0],H5.o.b⟩
       ·have Hi:(0:Int)<(el:Int):=by omega
        have Hb:¬el=0:=by omega
        go_wp2_with (first | (go_at_call 132;refine Ha.o.mono ?_;rintro e w4 ⟨rfl,H0⟩;have H4:=zh (H3.o.go H0);clear H0;clear x0 x1 x2 x3 x4 x5 x6 H1;obtain⟨x0,x1,x2,x3,x4,x5,x6⟩:=zbZ H4.o.b1;have H1:=zaZ H4.o.b1))
        go_ret
        rw[H9.o]
        try rw[HL.o]
        exact⟨by simp[Sx.restS,hd0,Hb],H4.o.b⟩
      ·have Hk:(0:Int)<(bl:Int):=by omega
       have Hd:¬bl=0:=by omega
       go_wp2_with (first | (go_at_call 132;refine Ha.o.mono ?_;rintro e w4 ⟨rfl,H0⟩;have H4:=zh (H3.o.go H0);clear H0;clear x0 x1 x2 x3 x4 x5 x6 H1;obtain⟨x0,x1,x2,x3,x4,x5,x6⟩:=zbZ H4.o.b1;have H1:=zaZ H4.o.b1))
       go_ret
       rw[H9.o]
       try rw[HL.o]
       exact⟨by simp[Sx.restS,hd0,Hd],H4.o.b⟩
     ·by_cases ht1:tl=1
      ·subst ht1
       go_wp2_with (first | (go_at_call 132;refine Ha.o.mono ?_;rintro e w4 ⟨rfl,H0⟩;have H4:=zh (H3.o.go H0);clear H0;clear x0 x1 x2 x3 x4 x5 x6 H1;obtain⟨x0,x1,x2,x3,x4,x5,x6⟩:=zbZ H4.o.b1;have H1:=zaZ H4.o.b1))
       go_ret
       rw[H9.o]
       try rw[HL.o]
       exact⟨by simp[Sx.restS,hd0],H4.o.b⟩
      ·have Hp:(1:Int)<(tl:Int):=by omega
       have Hj:¬tl=0:=by omega
       go_wp2_with (first | (go_at_call 132;refine Ha.o.mono ?_;rintro e w4 ⟨rfl,H0⟩;have H4:=zh (H3.o.go H0);clear H0;clear x0 x1 x2 x3 x4 x5 x6 H1;obtain⟨x0,x1,x2,x3,x4,x5,x6⟩:=zbZ H4.o.b1;have H1:=zaZ H4.o.b1))
       go_ret
       rw[H9.o]
       try rw[HL.o]
       exact⟨by simp[Sx.restS,hd0,Hj,ht1],H4.o.b⟩
    | false=>
     go_wp2_with (first | (go_at_call 132;refine Ha.o.mono ?_;rintro e w4 ⟨rfl,H0⟩;have H4:=zh (H3.o.go H0);clear H0;clear x0 x1 x2 x3 x4 x5 x6 H1;obtain⟨x0,x1,x2,x3,x4,x5,x6⟩:=zbZ H4.o.b1;have H1:=zaZ H4.o.b1))
     go_ret
     rw[H9.o]
     try rw[HL.o]
     exact⟨by simp[Sx.restS,hd0],H4.o.b⟩
  by_cases hk3:kd=3
  ·subst hk3
   cases nE with
   | true=>
    have Hg:=Hh.o
    rcases Nat.eq_zero_or_pos tl with hztl | hztl
    ·subst hztl
     rcases Nat.eq_zero_or_pos bl with hzbl | hzbl
     ·subst hzbl
      rcases Nat.eq_zero_or_pos el with hzel | hzel
      ·subst hzel
       cases rb with
       | true=>
        cases re with
        | true=>
         go_wp2_with (first | (go_at_call 65;(with_reducible refine(Hc.o _ H3.o.b).mono ?_);rintro e w4 ⟨rfl,H0⟩;have H4:=zh (H3.o.go H0);clear H0;clear x0 x1 x2 x3 x4 x5 x6 H1;obtain⟨x0,x1,x2,x3,x4,x5,x6⟩:=zbZ H4.o.b1;have H1:=zaZ H4.o.b1) | (go_at_call 65;(with_reducible refine(Hf.o _ H4.o.b).mono ?_);rintro e w5 ⟨rfl,H8⟩;have H5:=zh (H4.o.go H8);clear H8))
         go_ret
         rw[H9.o]
         try rw[HL.o]
         exact⟨by simp[Sx.restS,hd0],H5.o.b⟩
        | false=>
         go_wp2_with (first | (go_at_call 65;(with_reducible refine(Hc.o _ H3.o.b).mono ?_);rintro e w4 ⟨rfl,H0⟩;have H4:=zh (H3.o.go H0);clear H0;clear x0 x1 x2 x3 x4 x5 x6 H1;obtain⟨x0,x1,x2,x3,x4,x5,x6⟩:=zbZ H4.o.b1;have H1:=zaZ H4.o.b1) | (go_at_call 65;(with_reducible refine(Hf.o _ H4.o.b).mono ?_);rintro e w5 ⟨rfl,H8⟩;have H5:=zh (H4.o.go H8);clear H8))
         go_ret
         rw[H9.o]
         try rw[HL.o]
         exact⟨by simp[Sx.restS,hd0],H5.o.b⟩
       | false=>
        go_wp2_with (go_at_call 65;(with_reducible refine(Hc.o _ H3.o.b).mono ?_);rintro e w4 ⟨rfl,H0⟩;have H4:=zh (H3.o.go H0);clear H0;clear x0 x1 x2 x3 x4 x5 x6 H1;obtain⟨x0,x1,x2,x3,x4,x5,x6⟩:=zbZ H4.o.b1;have H1:=zaZ H4.o.b1)
        go_ret
        rw[H9.o]
        try rw[HL.o]
        exact⟨by simp[Sx.restS,hd0],H4.o.b⟩
      ·have Hi:(0:Int)<(el:Int):=by omega
       have Hb:¬el=0:=by omega
       go_wp2_with fail
       go_ret
       rw[H9.o]
       try rw[HL.o]
       exact⟨by simp[Sx.restS,hd0,Hb],H3.o.b⟩
     ·have Hk:(0:Int)<(bl:Int):=by omega
      have Hd:¬bl=0:=by omega
      go_wp2_with fail
      go_ret
      rw[H9.o]
      try rw[HL.o]
      exact⟨by simp[Sx.restS,hd0,Hd],H3.o.b⟩
    ·by_cases ht1:tl=1
     ·subst ht1
      go_wp2_with fail
      go_ret
      rw[H9.o]
      try rw[HL.o]
      exact⟨by simp[Sx.restS,hd0],H3.o.b⟩
     ·have Hp:(1:Int)<(tl:Int):=by omega
      have Hj:¬tl=0:=by omega
      go_wp2_with fail
      go_ret
      rw[H9.o]
      try rw[HL.o]
      exact⟨by simp[Sx.restS,hd0,Hj,ht1],H3.o.b⟩
   | false=>
    have Hg:=Hh.o
    go_wp2_with fail
    go_ret
    rw[H9.o]
    try rw[HL.o]
    exact⟨by simp[Sx.restS,hd0],H3.o.b⟩
  by_cases hk4:kd=4
  ·subst hk4
   cases nE with
   | true=>
    have Hg:=Hh.o
    rcases Nat.eq_zero_or_pos tl with hztl | hztl
    ·subst hztl
     cases rb with
     | true=>
      cases re with
      | true=>
       go_wp2_with (first | (go_at_call 65;(with_reducible refine(Hc.o _ H3.o.b).mono ?_);rintro e w4 ⟨rfl,H0⟩;have H4:=zh (H3.o.go H0);clear H0;clear x0 x1 x2 x3 x4 x5 x6 H1;obtain⟨x0,x1,x2,x3,x4,x5,x6⟩:=zbZ H4.o.b1;have H1:=zaZ H4.o.b1) | (go_at_call 65;(with_reducible refine(Hf.o _ H4.o.b).mono ?_);rintro e w5 ⟨rfl,H8⟩;have H5:=zh (H4.o.go H8);clear H8))
       go_ret
       rw[H9.o]
       try rw[HL.o]
       exact⟨by simp[Sx.restS,hd0],H5.o.b⟩
      | false=>
       go_wp2_with (first | (go_at_call 65;(with_reducible refine(Hc.o _ H3.o.b).mono ?_);rintro e w4 ⟨rfl,H0⟩;have H4:=zh (H3.o.go H0);clear H0;clear x0 x1 x2 x3 x4 x5 x6 H1;obtain⟨x0,x1,x2,x3,x4,x5,x6⟩:=zbZ H4.o.b1;have H1:=zaZ H4.o.b1) | (go_at_call 65;(with_reducible refine(Hf.o _ H4.o.b).mono ?_);rintro e w5 ⟨rfl,H8⟩;have H5:=zh (H4.o.go H8);clear H8))
       go_ret
       rw[H9.o]
       try rw[HL.o]
       exact⟨by simp[Sx.restS,hd0],H5.o.b⟩
     | false=>
      go_wp2_with (go_at_call 65;(with_reducible refine(Hc.o _ H3.o.b).mono ?_);rintro e w4 ⟨rfl,H0⟩;have H4:=zh (H3.o.go H0);clear H0;clear x0 x1 x2 x3 x4 x5 x6 H1;obtain⟨x0,x1,x2,x3,x4,x5,x6⟩:=zbZ H4.o.b1;have H1:=zaZ H4.o.b1)
      go_ret
      rw[H9.o]
      try rw[HL.o]
      exact⟨by simp[Sx.restS,hd0],H4.o.b⟩
    ·by_cases ht1:tl=1
     ·subst ht1
      go_wp2_with fail
      go_ret
      rw[H9.o]
      try rw[HL.o]
      exact⟨by simp[Sx.restS,hd0],H3.o.b⟩
     ·have Hp:(1:Int)<(tl:Int):=by omega
      have Hj:¬tl=0:=by omega
      go_wp2_with fail
      go_ret
      rw[H9.o]
      try rw[HL.o]
      exact⟨by simp[Sx.restS,hd0,Hj,ht1],H3.o.b⟩
   | false=>
    have Hg:=Hh.o
    go_wp2_with fail
    go_ret
    rw[H9.o]
    try rw[HL.o]
    exact⟨by simp[Sx.restS,hd0],H3.o.b⟩
  by_cases hk5:kd=5
  ·subst hk5
   cases nE with
   | true=>
    have Hg:=Hh.o
    rcases Nat.eq_zero_or_pos tl with hztl | hztl
    ·subst hztl
     rcases Nat.eq_zero_or_pos el with hzel | hzel
     ·subst hzel
      cases rb with
      | true=>
       cases re with
       | true=>
        go_wp2_with (first | (go_at_call 65;(with_reducible refine(Hc.o _ H3.o.b).mono ?_);rintro e w4 ⟨rfl,H0⟩;have H4:=zh (H3.o.go H0);clear H0;clear x0 x1 x2 x3 x4 x5 x6 H1;obtain⟨x0,x1,x2,x3,x4,x5,x6⟩:=zbZ H4.o.b1;have H1:=zaZ H4.o.b1) | (go_at_call 65;(with_reducible refine(Hf.o _ H4.o.b).mono ?_);rintro e w5 ⟨rfl,H8⟩;have H5:=zh (H4.o.go H8);clear H8))
        go_ret
        rw[H9.o]
        try rw[HL.o]
        exact⟨by simp[Sx.restS,hd0],H5.o.b⟩
       | false=>
        go_wp2_with (first | (go_at_call 65;(with_reducible refine(Hc.o _ H3.o.b).mono ?_);rintro e w4 ⟨rfl,H0⟩;have H4:=zh (H3.o.go H0);clear H0;clear x0 x1 x2 x3 x4 x5 x6 H1;obtain⟨x0,x1,x2,x3,x4,x5,x6⟩:=zbZ H4.o.b1;have H1:=zaZ H4.o.b1) | (go_at_call 65;(with_reducible refine(Hf.o _ H4.o.b).mono ?_);rintro e w5 ⟨rfl,H8⟩;have H5:=zh (H4.o.go H8);clear H8))
        go_ret
        rw[H9.o]
        try rw[HL.o]
        exact⟨by simp[Sx.restS,hd0],H5.o.b⟩
      | false=>
       go_wp2_with (go_at_call 65;(with_reducible refine(Hc.o _ H3.o.b).mono ?_);rintro e w4 ⟨rfl,H0⟩;have H4:=zh (H3.o.go H0);clear H0;clear x0 x1 x2 x3 x4 x5 x6 H1;obtain⟨x0,x1,x2,x3,x4,x5,x6⟩:=zbZ H4.o.b1;have H1:=zaZ H4.o.b1)
       go_ret
       rw[H9.o]
       try rw[HL.o]
       exact⟨by simp[Sx.restS,hd0],H4.o.b⟩
     ·have Hi:(0:Int)<(el:Int):=by omega
      have Hb:¬el=0:=by omega
      go_wp2_with fail
      go_ret
      rw[H9.o]
      try rw[HL.o]
      exact⟨by simp[Sx.restS,hd0,Hb],H3.o.b⟩
    ·by_cases ht1:tl=1
     ·subst ht1
      go_wp2_with fail
      go_ret
      rw[H9.o]
      try rw[HL.o]
      exact⟨by simp[Sx.restS,hd0],H3.o.b⟩
     ·have Hp:(1:Int)<(tl:Int):=by omega
      have Hj:¬tl=0:=by omega
      go_wp2_with fail
      go_ret
      rw[H9.o]
      try rw[HL.o]
      exact⟨by simp[Sx.restS,hd0,Hj,ht1],H3.o.b⟩
   | false=>
    have Hg:=Hh.o
    go_wp2_with fail
    go_ret
    rw[H9.o]
    try rw[HL.o]
    exact⟨by simp[Sx.restS,hd0],H3.o.b⟩
  by_cases hk6:kd=6
  ·subst hk6
   cases nE with
   | true=>
    have Hg:=Hh.o
    rcases Nat.eq_zero_or_pos tl with hztl | hztl
    ·subst hztl
     rcases Nat.eq_zero_or_pos bl with hzbl | hzbl
     ·subst hzbl
      rcases Nat.eq_zero_or_pos el with hzel | hzel
      ·subst hzel
       cases rb with
       | true=>
        cases re with
        | true=>
         go_wp2_with (first | (go_at_call 65;(with_reducible refine(Hc.o _ H3.o.b).mono ?_);rintro e w4 ⟨rfl,H0⟩;have H4:=zh (H3.o.go H0);clear H0;clear x0 x1 x2 x3 x4 x5 x6 H1;obtain⟨x0,x1,x2,x3,x4,x5,x6⟩:=zbZ H4.o.b1;have H1:=zaZ H4.o.b1) | (go_at_call 65;(with_reducible refine(Hf.o _ H4.o.b).mono ?_);rintro e w5 ⟨rfl,H8⟩;have H5:=zh (H4.o.go H8);clear H8))
         go_ret
         rw[H9.o]
         try rw[HL.o]
         exact⟨by simp[Sx.restS,hd0],H5.o.b⟩
        | false=>
         go_wp2_with (first | (go_at_call 65;(with_reducible refine(Hc.o _ H3.o.b).mono ?_);rintro e w4 ⟨rfl,H0⟩;have H4:=zh (H3.o.go H0);clear H0;clear x0 x1 x2 x3 x4 x5 x6 H1;obtain⟨x0,x1,x2,x3,x4,x5,x6⟩:=zbZ H4.o.b1;have H1:=zaZ H4.o.b1) | (go_at_call 65;(with_reducible refine(Hf.o _ H4.o.b).mono ?_);rintro e w5 ⟨rfl,H8⟩;have H5:=zh (H4.o.go H8);clear H8))
         go_ret
         rw[H9.o]
         try rw[HL.o]
         exact⟨by simp[Sx.restS,hd0],H5.o.b⟩
       | false=>
        go_wp2_with (go_at_call 65;(with_reducible refine(Hc.o _ H3.o.b).mono ?_);rintro e w4 ⟨rfl,H0⟩;have H4:=zh (H3.o.go H0);clear H0;clear x0 x1 x2 x3 x4 x5 x6 H1;obtain⟨x0,x1,x2,x3,x4,x5,x6⟩:=zbZ H4.o.b1;have H1:=zaZ H4.o.b1)
        go_ret
        rw[H9.o]
        try rw[HL.o]
        exact⟨by simp[Sx.restS,hd0],H4.o.b⟩
      ·have Hi:(0:Int)<(el:Int):=by omega
       have Hb:¬el=0:=by omega
       go_wp2_with fail
       go_ret
       rw[H9.o]
       try rw[HL.o]
       exact⟨by simp[Sx.restS,hd0,Hb],H3.o.b⟩
     ·have Hk:(0:Int)<(bl:Int):=by omega
      have Hd:¬bl=0:=by omega
      go_wp2_with fail
      go_ret
      rw[H9.o]
      try rw[HL.o]
      exact⟨by simp[Sx.restS,hd0,Hd],H3.o.b⟩
    ·by_cases ht1:tl=1
     ·subst ht1
      go_wp2_with fail
      go_ret
      rw[H9.o]
      try rw[HL.o]
      exact⟨by simp[Sx.restS,hd0],H3.o.b⟩
     ·have Hp:(1:Int)<(tl:Int):=by omega
      have Hj:¬tl=0:=by omega
      go_wp2_with fail
      go_ret
      rw[H9.o]
      try rw[HL.o]
      exact⟨by simp[Sx.restS,hd0,Hj,ht1],H3.o.b⟩
   | false=>
    have Hg:=Hh.o
    go_wp2_with fail
    go_ret
    rw[H9.o]
    try rw[HL.o]
    exact⟨by simp[Sx.restS,hd0],H3.o.b⟩
  by_cases hk7:kd=7
  ·subst hk7
   cases nE with
   | true=>
    have Hg:=Hh.o
    rcases Nat.eq_zero_or_pos tl with hztl | hztl
    ·subst hztl
     rcases Nat.eq_zero_or_pos bl with hzbl | hzbl
     ·subst hzbl
      rcases Nat.eq_zero_or_pos el with hzel | hzel
      ·subst hzel
       cases rb with
       | true=>
        cases re with
        | true=>
         go_wp2_with (first | (go_at_call 65;(with_reducible refine(Hc.o _ H3.o.b).mono ?_);rintro e w4 ⟨rfl,H0⟩;have H4:=zh (H3.o.go H0);clear H0;clear x0 x1 x2 x3 x4 x5 x6 H1;obtain⟨x0,x1,x2,x3,x4,x5,x6⟩:=zbZ H4.o.b1;have H1:=zaZ H4.o.b1) | (go_at_call 65;(with_reducible refine(Hf.o _ H4.o.b).mono ?_);rintro e w5 ⟨rfl,H8⟩;have H5:=zh (H4.o.go H8);clear H8))
         go_ret
         rw[H9.o]
         try rw[HL.o]
         exact⟨by simp[Sx.restS,hd0],H5.o.b⟩
        | false=>
         go_wp2_with (first | (go_at_call 65;(with_reducible refine(Hc.o _ H3.o.b).mono ?_);rintro e w4 ⟨rfl,H0⟩;have H4:=zh (H3.o.go H0);clear H0;clear x0 x1 x2 x3 x4 x5 x6 H1;obtain⟨x0,x1,x2,x3,x4,x5,x6⟩:=zbZ H4.o.b1;have H1:=zaZ H4.o.b1) | (go_at_call 65;(with_reducible refine(Hf.o _ H4.o.b).mono ?_);rintro e w5 ⟨rfl,H8⟩;have H5:=zh (H4.o.go H8);clear H8))
         go_ret
         rw[H9.o]
         try rw[HL.o]
         exact⟨by simp[Sx.restS,hd0],H5.o.b⟩
       | false=>
        go_wp2_with (go_at_call 65;(with_reducible refine(Hc.o _ H3.o.b).mono ?_);rintro e w4 ⟨rfl,H0⟩;have H4:=zh (H3.o.go H0);clear H0;clear x0 x1 x2 x3 x4 x5 x6 H1;obtain⟨x0,x1,x2,x3,x4,x5,x6⟩:=zbZ H4.o.b1;have H1:=zaZ H4.o.b1)
        go_ret
        rw[H9.o]
        try rw[HL.o]
        exact⟨by simp[Sx.restS,hd0],H4.o.b⟩
      ·have Hi:(0:Int)<(el:Int):=by omega
       have Hb:¬el=0:=by omega
       go_wp2_with fail
       go_ret
       rw[H9.o]
       try rw[HL.o]
       exact⟨by simp[Sx.restS,hd0,Hb],H3.o.b⟩
     ·have Hk:(0:Int)<(bl:Int):=by omega
      have Hd:¬bl=0:=by omega
      go_wp2_with fail
      go_ret
      rw[H9.o]
      try rw[HL.o]
      exact⟨by simp[Sx.restS,hd0,Hd],H3.o.b⟩
    ·by_cases ht1:tl=1
     ·subst ht1
      go_wp2_with fail
      go_ret
      rw[H9.o]
      try rw[HL.o]
      exact⟨by simp[Sx.restS,hd0],H3.o.b⟩
     ·have Hp:(1:Int)<(tl:Int):=by omega
      have Hj:¬tl=0:=by omega
      go_wp2_with fail
      go_ret
      rw[H9.o]
      try rw[HL.o]
      exact⟨by simp[Sx.restS,hd0,Hj,ht1],H3.o.b⟩
   | false=>
    have Hg:=Hh.o
    go_wp2_with fail
    go_ret
    rw[H9.o]
    try rw[HL.o]
    exact⟨by simp[Sx.restS,hd0],H3.o.b⟩
  by_cases hlo:kd<1
  ·have Hy:¬(1:Int)≤kd:=by omega
   have g1:(kd==1)=false:=by rw[beq_eq_false_iff_ne];omega
   have g2:(kd==2)=false:=by rw[beq_eq_false_iff_ne];omega
   have g3:(kd==3)=false:=by rw[beq_eq_false_iff_ne];omega
   have g4:(kd==4)=false:=by rw[beq_eq_false_iff_ne];omega
   have g5:(kd==5)=false:=by rw[beq_eq_false_iff_ne];omega
   have g6:(kd==6)=false:=by rw[beq_eq_false_iff_ne];omega
   have g7:(kd==7)=false:=by rw[beq_eq_false_iff_ne];omega
   have J0:=zh (show ∀a b c d e f g h,Sx.restS kd a b c d e f g h=false from fun a b c d e f g h=>by unfold Sx.restS;rw[decide_eq_false (by omega)];rfl)
   clear hk1 hk2 hk3 hk4 hk5 hk6 hk7 Hy
   go_wp2_with fail
   go_ret
   rw[H9.o]
   try rw[HL.o]
   exact⟨by simp[hd0,J0.o],H3.o.b⟩
  ·have Jr:(7:Int)<kd:=by omega
   have J1:¬kd≤7:=by omega
   have Jh:(1:Int)≤kd:=by omega
   have g1:(kd==1)=false:=by rw[beq_eq_false_iff_ne];omega
   have g2:(kd==2)=false:=by rw[beq_eq_false_iff_ne];omega
   have g3:(kd==3)=false:=by rw[beq_eq_false_iff_ne];omega
   have g4:(kd==4)=false:=by rw[beq_eq_false_iff_ne];omega
   have g5:(kd==5)=false:=by rw[beq_eq_false_iff_ne];omega
   have g6:(kd==6)=false:=by rw[beq_eq_false_iff_ne];omega
   have g7:(kd==7)=false:=by rw[beq_eq_false_iff_ne];omega
   have J0:=zh (show ∀a b c d e f g h,Sx.restS kd a b c d e f g h=false from fun a b c d e f g h=>by unfold Sx.restS;rw[decide_eq_false (by omega)];rfl)
   clear hk1 hk2 hk3 hk4 hk5 hk6 hk7 hlo J1
   go_wp2_with fail
   go_ret
   rw[H9.o]
   try rw[HL.o]
   exact⟨by simp[hd0,J0.o],H3.o.b⟩
theorem zdsZ:∀(n:Nat) (s:Sx.St),Sx.sizeS s≤n→∀d,d≤64→RightSOk d s
 | 0,s,h=>by have:=Sx.sizeS_pos s;omega
 | n+1,s,h=>fun d hd=>znxZ d hd s
   (fun d hd=>zevZ d hd _ fun p hp=>zdsZ n p (by
    have:=Sx.sizeS_mem hp
    have:=Sx.sizeS_parts s
    omega) d hd)
   (fun d hd=>zevZ d hd _ fun p hp=>zdsZ n p (by
    have:=Sx.sizeS_mem hp
    have:=Sx.sizeS_parts s
    omega) d hd)
theorem zjnZ (d:Nat) (hd:d≤64) (l:List Sx.St):RightSsOk d l:=zevZ d hd l fun s _=>zdsZ _ s (Nat.le_refl _) d hd
end Go.Proofs.YtdncljdfmdgdaaaGreatDoor
