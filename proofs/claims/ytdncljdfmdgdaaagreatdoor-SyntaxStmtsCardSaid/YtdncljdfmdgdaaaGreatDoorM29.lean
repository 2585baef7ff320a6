/-
  The walk of coilref2's Told at the kinds with parts.
-/
import Derived.Test.YtdncljdfmdgdaaaGreatDoorM28
set_option linter.unusedSimpArgs false
set_option linter.unusedVariables false
set_option maxRecDepth 100000
set_option maxHeartbeats 16000000
namespace Go.Proofs.YtdncljdfmdgdaaaGreatDoor
open Go.RowKit Go.Shelf
attribute [local go_sem] opWp zoZ zvZ zpZ
theorem told6 (n:Nat) (hn:n+1<=1000000) (ih:ToldOk n) (x:Sx.Ex) (hsz:Sx.sizeX x<=n+1) (hok:Sx.okX x) (hnum:Sx.numX x) (hkd:x.kind=6) (v:Value) (W:World) (hG:GL W) (hN:NG<=W.heap.size) (ht:IsEx W v x):ToldIs x v W:=by
 unfold ToldIs;obtain⟨hsh,hrp⟩:=hok.shape;obtain⟨hxn,hnp⟩:=Sx.numX_parts hnum;have H4:=Sx.sizeX_parts x;obtain⟨At,ct,An,cn,Ap,cp,rfl,htt,hnn,hp,hn0,hn1⟩:=ht.agg;unfold Sx.shapeX at hsh;simp only[ygZ]at hsh;obtain⟨h1,h2,h3,h4,h5⟩:=hsh;rw[hkd]at h3 h4 h5;simp only[true_or,or_true,ycbZ,ygZ,ytZ]at h4;have H1:0<x.t.length:=by omega
 obtain⟨gt,offt,At1,ct1,Ae1,ce1,Aq1,cq1,rfl,htq,hct⟩:=htt.spot 0 H1;obtain⟨q,hqe⟩:=zE (x.t[0]'H1);have H0:q∈x.t:=by rw[<-hqe];exact yfZ H1
 rw[hqe]at htq hct;rw[yrZ,ypZ]at hct;have Ha:=zh htq;have H7:=zh hct;have H5:=Sx.rights_mem h4.2 q H0;have Hb:=Sx.size_mem H0;have H2:=zh (show Sx.size q<=1000000/\(∃d,Sx.rightT NM d q=true)/\0<(Sx.typ q).length from⟨by omega,⟨64,H5⟩,Sx.typ_pos H5⟩);have H9:(0:Int)<(x.t.length:Int):=by omega
 have H3:=zh (show(Sx.typ q).length<=50000000 by have:=Sx.typ_len q;omega)
 have HT:=zh (show Sx.expr SY x=[[110,105,108]]++Sx.typ q by
  rw[Sx.expr_eq,hkd];simp only[Int.reduceEq,Int.reduceLE,ycbZ,yXZ,yjbZ,ylbZ,or_true,true_or,reduceIte,Nat.reduceEqDiff,ymbZ,true_and,and_false,false_and];rw[Sx.typL_head H1,hqe]
  rfl)
 rw[hkd];obtain⟨L,B,w2,hL,hw2,hB,HX⟩:=boxed hG hN #[.int .i64 x.pos,.int .i64 6,.int .i64 x.n,.string ⟨x.s.toArray⟩,.slice (some ⟨gt,offt,none⟩) x.t.length ct,.slice An x.names.length cn,.slice Ap x.parts.length cp];obtain⟨x0,x1,x2,x3,x4,x5,x6⟩:=zbZ HX.o.box;have Hf:=zaZ HX.o.box;clear hG hN  ih hsz hn ht htt hnn hp hn0 hn1 hrp hnp hok hnum h1 h2 h4 h5 hkd H4 h3 hqe htq hct H0 H5 Hb;go_enter Tryz.func34, Tryz.ntmps34;go_upto_region 15 with fail
 clear x0 x1 x2 x3 x4 x5 x6;have hB0:Below B w2 w2:=HX.o.r2;have hO0:OwnS w2 B (.slice none 0 0) ([]):=yOZ _ _ _ _;obtain⟨Fs,⟨F0,F1,F2,F3,F4,F5,F6,F7,-⟩,hstay⟩:=zrZ [AppF 0,IsF (.pointer (some ⟨L,4,none⟩)),IsF (.slice (some ⟨gt,offt,none⟩) x.t.length ct),IsF (.pointer (some ⟨gt,offt,none⟩)),IsF (.agg #[.int .i64 q.kind,.string ⟨q.name.toArray⟩,.slice At1 q.names.length ct1,.slice Ae1 q.embeds.length ce1,.slice Aq1 q.parts.length cq1]),StrF (Sx.typ q),AppF 1,AppF 1];obtain⟨Lf,⟨L0,L1,L2,-⟩,hL⟩:=zbkZ ([[110,105,108]]) [(Sx.typ q)] (by simp only[tot];(have h1:=H3.o;simp only[ycZ,yhZ,ynZ]at *;omega));refine zbeZ (apps:=[0,6]) hstay hB0 hO0 L0 L2 F7 ?_ ?_;have H6:=Bx.mk (P:= Tryz.prog) (I:=RowI B w2 (.slice none 0 0) Lf) flX ldA fun _ w _ h=>HX.o.bx w h.1
 ·repeat' first | refine OpsOk.cons ?_ ?_ | fail
  ·exact .h0 HX.o.bb F0 L1
  ·exact .fl H6 F1 (.n 1)
  ·exact .ld H6 F2 (.f 40 F1)
  ·refine OpOk.val rfl rfl F3 RowM.rf fun ρ w r k E hI K hK=>?_;have e41:=E.e 41 2 (by kernel_rfl) F2;have c:=E.c;obtain⟨hg,c0,c1,c2,c3,c4⟩:=H7.o w (HX.o.wx w hI.1);go_simp;exact hK
  ·refine OpOk.val rfl rfl F4 RowM.rf fun ρ w r k E hI K hK=>?_;have e42:=E.e 42 3 (by kernel_rfl) F3;obtain⟨hg,c0,c1,c2,c3,c4⟩:=H7.o w (HX.o.wx w hI.1);go_simp;exact hK
  ·exact .C HX.o.bb F5 Tryz.func28 (.f 43 F4) fun w hb=>zhsZ 1000000 (ybZ _) q H2.o.1 H2.o.2.1 _ w (IsTy.below (HX.o.wx w hb) _ _ Ha.o)
  ·exact .N 39 44 HX.o.bb hL F6 L1 L2 F0 F5 (hm:=H2.o.2.2)
  ·exact .aa F7 F6 45
  ·exact .nil
 ·intro uq wq rq hBz hOz hz;simp only[yyZ,fillAct,Act.put,yoZ,yzZ,yAZ,hz];clear F0 F1 F2 F3 F4 F5 F6 F7 hstay hL L0 L1 L2 hz;have H8:=zh hOz;have Hc:=zh hBz;clear hOz hBz;go_wp2_with fail;go_ret;exact⟨_,rfl,by rw[HT.o];first | exact H8.o.base_le HX.o.wb | simpa[yiZ]using H8.o.base_le HX.o.wb,HX.o.wx _ Hc.o⟩
theorem told9 (n:Nat) (hn:n+1<=1000000) (ih:ToldOk n) (x:Sx.Ex) (hsz:Sx.sizeX x<=n+1) (hok:Sx.okX x) (hnum:Sx.numX x) (hkd:x.kind=9) (v:Value) (W:World) (hG:GL W) (hN:NG<=W.heap.size) (ht:IsEx W v x):ToldIs x v W:=by
 unfold ToldIs;obtain⟨hsh,hrp⟩:=hok.shape;obtain⟨hxn,hnp⟩:=Sx.numX_parts hnum;have H6:=Sx.sizeX_parts x;obtain⟨At,ct,An,cn,Ap,cp,rfl,htt,hnn,hp,hn0,hn1⟩:=ht.agg;unfold Sx.shapeX at hsh;simp only[ygZ]at hsh;obtain⟨h1,h2,h3,h4,h5⟩:=hsh;rw[hkd]at h3 h4 h5;have Hd:x.parts.length=1:=by simp at h5;omega
 have H2:0<x.parts.length:=by omega
 obtain⟨g,off,Atp,ctp,Anp,cnp,App,cpp,rfl,hty0,hc0⟩:=hp.spot 0 H2;obtain⟨p,hpe⟩:=zE (x.parts[0]'H2);have H0:p∈x.parts:=by rw[<-hpe];exact yfZ H2
 rw[hpe]at hty0 hc0;rw[yrZ,ypZ]at hc0;have H7:=zh hty0;have H8:=zh hc0;have H4:=Sx.sizeX_mem H0;have H3:=zh (show Sx.sizeX p<=n/\Sx.okX p/\Sx.numX p from⟨by omega,hrp p H0,hnp p H0⟩);have Ha:(0:Int)<(x.parts.length:Int):=by omega
 have H5:=zh (show(Sx.part 7 p).length<=50000000 by have:=Sx.part_len 7 p;omega)
 have HT:=zh (show Sx.expr SY x=Sx.part 7 p++[[46],x.s]by
  rw[Sx.expr_eq,hkd];simp only[Int.reduceEq,Int.reduceLE,ycbZ,yXZ,yjbZ,ylbZ,or_true,true_or,reduceIte,Nat.reduceEqDiff,ymbZ,true_and,and_false,false_and]
  rw[Sx.first_head 7 H2,hpe])
 have He:=zh ih;have Hc:=zh (show Sx.sizeX x<=n+1/\n+1<=1000000 from⟨hsz,hn⟩);rw[hkd];obtain⟨L,B,w2,hL,hw2,hB,HX⟩:=boxed hG hN #[.int .i64 x.pos,.int .i64 9,.int .i64 x.n,.string ⟨x.s.toArray⟩,.slice At x.t.length ct,.slice An x.names.length cn,.slice (some ⟨g,off,none⟩) x.parts.length cp];obtain⟨x0,x1,x2,x3,x4,x5,x6⟩:=zbZ HX.o.box;have Hf:=zaZ HX.o.box;clear hG hN  ih hsz hn ht htt hnn hp hn0 hn1 hrp hnp hok hnum h1 h2 h4 h5 hkd H6 h3 hpe Hd hty0 hc0 H0 H4;go_enter Tryz.func34, Tryz.ntmps34;go_upto_region 30 with fail
 clear x0 x1 x2 x3 x4 x5 x6;have hB0:Below B w2 w2.drew:=(HX.o.r2).drew;have hO0:OwnS w2.drew B (.slice none 0 0) ([]):=yOZ _ _ _ _;obtain⟨Fs,⟨F0,F1,F2,F3,F4,F5,F6,F7,F8,F9,-⟩,hstay⟩:=zrZ [IsF (.pointer (some ⟨L,6,none⟩)),IsF (.slice (some ⟨g,off,none⟩) x.parts.length cp),IsF (.pointer (some ⟨g,off,none⟩)),IsF (.agg #[.int .i64 p.pos,.int .i64 p.kind,.int .i64 p.n,.string ⟨p.s.toArray⟩,.slice Atp p.t.length ctp,.slice Anp p.names.length cnp,.slice App p.parts.length cpp]),AppF 0,IsF (.pointer (some ⟨L,3,none⟩)),IsF (.string ⟨x.s.toArray⟩),StrF [[46],x.s],AppF 1,AppF 1];obtain⟨Lf,⟨L0,L1,L2,-⟩,hL⟩:=zbkZ ((Sx.part 7 p)) [[[46],x.s]] (by simp only[tot];(have h1:=H5.o;simp only[ycZ,yhZ,ynZ]at *;omega));refine zbbZ (apps:=[4,8]) hstay hB0 hO0 L0 L2 F9 ?_ ?_;have H1:=Bx.mk (P:= Tryz.prog) (I:=RowI B w2 (.slice none 0 0) Lf) flX ldA fun _ w _ h=>HX.o.bx w h.1
 ·repeat' first | refine OpsOk.cons ?_ ?_ | fail
  ·exact .fl H1 F0 (.n 1)
  ·exact .ld H1 F1 (.f 92 F0)
  ·refine OpOk.val rfl rfl F2 RowM.rf fun ρ w r k E hI K hK=>?_;have e93:=E.e 93 1 (by kernel_rfl) F1;have c:=E.c;obtain⟨hg,c0,c1,c2,c3,c4,c5,c6⟩:=H8.o w (HX.o.wx w hI.1);go_simp;exact hK
  ·refine OpOk.val rfl rfl F3 RowM.rf fun ρ w r k E hI K hK=>?_;have e94:=E.e 94 2 (by kernel_rfl) F2;obtain⟨hg,c0,c1,c2,c3,c4,c5,c6⟩:=H8.o w (HX.o.wx w hI.1);go_simp;exact hK
  ·exact OpOk.hcall rfl rfl F4 HX.o.bb L1 rfl Tryz.func78 (by kernel_rfl) rfl (fun ρ w r k E=>by simp only[yIZ,yPZ,yRZ,E.e 95 3 (by kernel_rfl) F3,E.c];rfl) fun w hb=>zciZ n (by have:=Hc.o;omega) He.o p H3.o.1 H3.o.2.1 H3.o.2.2 7 (by omega) _ w (HX.o.gx w hb).1 (HX.o.gx w hb).2 (IsEx.below (HX.o.wx w hb) _ _ H7.o)
  ·exact .fl H1 F5 (.n 1)
  ·exact .ld H1 F6 (.f 97 F5)
  ·exact .o1 HX.o.bb F7 (.f 98 F6)
  ·exact .N 96 99 HX.o.bb hL F8 L1 L2 F4 F7
  ·exact .aa F9 F8 100
  ·exact .nil
 ·intro uq wq rq hBz hOz hz;simp only[yyZ,fillAct,Act.put,yoZ,yzZ,yAZ,hz];clear F0 F1 F2 F3 F4 F5 F6 F7 F8 F9 hstay hL L0 L1 L2 hz;have H9:=zh hOz;have Hb:=zh hBz;clear hOz hBz;go_wp2_with fail;go_ret;exact⟨_,rfl,by rw[HT.o];first | exact H9.o.base_le HX.o.wb | simpa[yiZ]using H9.o.base_le HX.o.wb,HX.o.wx _ Hb.o⟩
theorem zxvZ (n:Nat) (hn:n+1<=1000000) (ih:ToldOk n) (x:Sx.Ex) (hsz:Sx.sizeX x<=n+1) (hok:Sx.okX x) (hnum:Sx.numX x) (hkd:x.kind=10) (v:Value) (W:World) (hG:GL W) (hN:NG<=W.heap.size) (ht:IsEx W v x):ToldIs x v W:=by
 unfold ToldIs;obtain⟨hsh,hrp⟩:=hok.shape;obtain⟨hxn,hnp⟩:=Sx.numX_parts hnum;have H8:=Sx.sizeX_parts x;obtain⟨At,ct,An,cn,Ap,cp,rfl,htt,hnn,hp,hn0,hn1⟩:=ht.agg;unfold Sx.shapeX at hsh;simp only[ygZ]at hsh;obtain⟨h1,h2,h3,h4,h5⟩:=hsh;rw[hkd]at h3 h4 h5;have Hl:1<=x.parts.length:=by simp at h5;omega
 have H2:0<x.parts.length:=by omega
 obtain⟨g,off,Atp,ctp,Anp,cnp,App,cpp,rfl,hty0,hc0⟩:=hp.spot 0 H2;obtain⟨p,hpe⟩:=zE (x.parts[0]'H2);have H0:p∈x.parts:=by rw[<-hpe];exact yfZ H2
 rw[hpe]at hty0 hc0;rw[yrZ,ypZ]at hc0;have Ha:=zh hty0;have Hc:=zh hc0;have H6:=Sx.sizeX_mem H0;have H4:=zh (show Sx.sizeX p<=n/\Sx.okX p/\Sx.numX p from⟨by omega,hrp p H0,hnp p H0⟩);have Hj:(0:Int)<(x.parts.length:Int):=by omega
 have H7:=zh (show(Sx.part 7 p).length<=20000000 by have:=Sx.part_len 7 p;omega);obtain⟨V,hV⟩:=zE (sliced (some ⟨g,off,none⟩) 1 x.parts.length cp 7);have Hb:∀w,(Instr.slice 37 (.slice (some ⟨g,off,none⟩) x.parts.length cp) (some (.int .i64 1)) none none).run Tryz.prog w=.ok V w:=fun w=>by rw[zfdZ _ _ _ _ (by omega),hV]
 have Hi:ExRow W V x.parts.tail:=by rw[<-hV];exact hp.tail H2
 have H5:∀y∈x.parts.tail,y∈x.parts:=fun y hy=>List.mem_of_mem_tail hy;have Hm:Sx.sizeXs x.parts.tail<=Sx.sizeXs x.parts:=by
  generalize x.parts=ll
  cases ll with
  | nil=>exact ybZ _
  | cons y l=>rw[List.tail_cons,Sx.sizeXs];omega
 have H3:=zh (show Sx.sizeXs x.parts.tail<=n/\(∀y∈x.parts.tail,Sx.okX y)/\(∀y∈x.parts.tail,Sx.numX y)/\ExRow W V x.parts.tail from⟨by omega,fun y hy=>hrp y (H5 y hy),fun y hy=>hnp y (H5 y hy),Hi⟩)
 have Hd:=zh (show(Sx.listed x.parts.tail).length<=20000000 by
  unfold Sx.listed;have:=Sx.list_len SY 0 x.parts.tail;simp only[ycZ,yhZ,ynZ]
  omega)
 have He:=zh (show 0<(Sx.listed x.parts.tail).length by unfold Sx.listed;exact zbiZ (yVZ _));have H9:=Sx.args_tail H2;obtain⟨tl,htl⟩:=zE (x.parts.tail);rw[htl]at H3 Hd He H9
 have HT:=zh (show Sx.expr SY x=Sx.part 7 p++[[46],x.s]++Sx.listed tl by
  rw[Sx.expr_eq,hkd];simp only[Int.reduceEq,Int.reduceLE,ycbZ,yXZ,yjbZ,ylbZ,or_true,true_or,reduceIte,Nat.reduceEqDiff,ymbZ,true_and,and_false,false_and]
  rw[Sx.first_head 7 H2,hpe,H9])
 have Hg:=zh ih;have Hf:=zh (show Sx.sizeX x<=n+1/\n+1<=1000000 from⟨hsz,hn⟩);rw[hkd];obtain⟨L,B,w2,hL,hw2,hB,HX⟩:=boxed hG hN #[.int .i64 x.pos,.int .i64 10,.int .i64 x.n,.string ⟨x.s.toArray⟩,.slice At x.t.length ct,.slice An x.names.length cn,.slice (some ⟨g,off,none⟩) x.parts.length cp];obtain⟨x0,x1,x2,x3,x4,x5,x6⟩:=zbZ HX.o.box;have Hn:=zaZ HX.o.box;clear hG hN  ih hsz hn ht htt hnn hp hn0 hn1 hrp hnp hok hnum h1 h2 h4 h5 hkd H8 h3 hpe Hl hty0 hc0 H0 H6 hV Hi H5 Hm htl H9;go_enter Tryz.func34, Tryz.ntmps34;go_upto_region 32 with fail
 clear x0 x1 x2 x3 x4 x5 x6;have hB0:Below B w2 w2.drew:=(HX.o.r2).drew;have hO0:OwnS w2.drew B (.slice none 0 0) ([]):=yOZ _ _ _ _;obtain⟨Fs,⟨F0,F1,F2,F3,F4,F5,F6,F7,F8,F9,F10,F11,F12,F13,F14,-⟩,hstay⟩:=zrZ [IsF (.pointer (some ⟨L,6,none⟩)),IsF (.slice (some ⟨g,off,none⟩) x.parts.length cp),IsF (.pointer (some ⟨g,off,none⟩)),IsF (.agg #[.int .i64 p.pos,.int .i64 p.kind,.int .i64 p.n,.string ⟨p.s.toArray⟩,.slice Atp p.t.length ctp,.slice Anp p.names.length cnp,.slice App p.parts.length cpp]),AppF 0,IsF (.pointer (some ⟨L,3,none⟩)),IsF (.string ⟨x.s.toArray⟩),StrF [[46],x.s],AppF 1,IsF (.pointer (some ⟨L,6,none⟩)),IsF (.slice (some ⟨g,off,none⟩) x.parts.length cp),IsF (V),StrF (Sx.listed tl),AppF 2,AppF 2];obtain⟨Lf,⟨L0,L1,L2,L3,-⟩,hL⟩:=zbkZ ((Sx.part 7 p)) [[[46],x.s],(Sx.listed tl)] (by simp only[tot];(have h1:=H7.o;have h2:=Hd.o;(try simp only[ycZ,yhZ,ynZ]at *);omega));refine zbbZ (apps:=[4,8,13]) hstay hB0 hO0 L0 L3 F14 ?_ ?_;have H1:=Bx.mk (P:= Tryz.prog) (I:=RowI B w2 (.slice none 0 0) Lf) flX ldA fun _ w _ h=>HX.o.bx w h.1
 ·repeat' first | refine OpsOk.cons ?_ ?_ | fail
  ·exact .fl H1 F0 (.n 1)
  ·exact .ld H1 F1 (.f 103 F0)
  ·refine OpOk.val rfl rfl F2 RowM.rf fun ρ w r k E hI K hK=>?_;have e104:=E.e 104 1 (by kernel_rfl) F1;have c:=E.c;obtain⟨hg,c0,c1,c2,c3,c4,c5,c6⟩:=Hc.o w (HX.o.wx w hI.1);go_simp;exact hK
  ·refine OpOk.val rfl rfl F3 RowM.rf fun ρ w r k E hI K hK=>?_;have e105:=E.e 105 2 (by kernel_rfl) F2;obtain⟨hg,c0,c1,c2,c3,c4,c5,c6⟩:=Hc.o w (HX.o.wx w hI.1);go_simp;exact hK
  ·exact OpOk.hcall rfl rfl F4 HX.o.bb L1 rfl Tryz.func78 (by kernel_rfl) rfl (fun ρ w r k E=>by simp only[yIZ,yPZ,yRZ,E.e 106 3 (by kernel_rfl) F3,E.c];rfl) fun w hb=>zciZ n (by have:=Hf.o;omega) Hg.o p H4.o.1 H4.o.2.1 H4.o.2.2 7 (by omega) _ w (HX.o.gx w hb).1 (HX.o.gx w hb).2 (IsEx.below (HX.o.wx w hb) _ _ Ha.o)
  ·exact .fl H1 F5 (.n 1)
  ·exact .ld H1 F6 (.f 108 F5)
  ·exact .o1 HX.o.bb F7 (.f 109 F6)
  ·exact .N 107 110 HX.o.bb hL F8 L1 L2 F4 F7
  ·exact .fl H1 F9 (.n 1)
  ·exact .ld H1 F10 (.f 112 F9)
  ·refine OpOk.val rfl rfl F11 RowM.rf fun ρ w r k E hI K hK=>?_;have e113:=E.e 113 10 (by kernel_rfl) F10;have c:=E.c;have hr:=Hb w;go_simp;exact hK
  ·exact .C HX.o.bb F12 Tryz.func79 (.f 114 F11) fun w hb=>zhwZ n (by have:=Hf.o;omega) Hg.o tl H3.o.1 H3.o.2.1 H3.o.2.2.1 _ w (HX.o.gx w hb).1 (HX.o.gx w hb).2 (H3.o.2.2.2.below (HX.o.wx w hb))
  ·exact .N 111 115 HX.o.bb hL F13 L2 L3 F8 F12 (hm:=He.o)
  ·exact .aa F14 F13 116
  ·exact .nil
 ·intro uq wq rq hBz hOz hz;simp only[yyZ,fillAct,Act.put,yoZ,yzZ,yAZ,hz];clear F0 F1 F2 F3 F4 F5 F6 F7 F8 F9 F10 F11 F12 F13 F14 hstay hL L0 L1 L2 L3 hz;have Hh:=zh hOz;have Hk:=zh hBz;clear hOz hBz;go_wp2_with fail;go_ret;exact⟨_,rfl,by rw[HT.o];first | exact Hh.o.base_le HX.o.wb | simpa[yiZ]using Hh.o.base_le HX.o.wb,HX.o.wx _ Hk.o⟩
theorem zxwZ (n:Nat) (hn:n+1<=1000000) (ih:ToldOk n) (x:Sx.Ex) (hsz:Sx.sizeX x<=n+1) (hok:Sx.okX x) (hnum:Sx.numX x) (hkd:x.kind=12) (v:Value) (W:World) (hG:GL W) (hN:NG<=W.heap.size) (ht:IsEx W v x):ToldIs x v W:=by
 unfold ToldIs;obtain⟨hsh,hrp⟩:=hok.shape;obtain⟨hxn,hnp⟩:=Sx.numX_parts hnum;have H9:=Sx.sizeX_parts x;obtain⟨At,ct,An,cn,Ap,cp,rfl,htt,hnn,hp,hn0,hn1⟩:=ht.agg;unfold Sx.shapeX at hsh;simp only[ygZ]at hsh;obtain⟨h1,h2,h3,h4,h5⟩:=hsh;rw[hkd]at h3 h4 h5;have Hl:x.parts.length=1:=by simp at h5;omega
 have H4:0<x.parts.length:=by omega
 obtain⟨g,off,Atp,ctp,Anp,cnp,App,cpp,rfl,hty0,hc0⟩:=hp.spot 0 H4;obtain⟨p,hpe⟩:=zE (x.parts[0]'H4);have H0:p∈x.parts:=by rw[<-hpe];exact yfZ H4
 rw[hpe]at hty0 hc0;rw[yrZ,ypZ]at hc0;have Hb:=zh hty0;have Hc:=zh hc0;have H7:=Sx.sizeX_mem H0;have H5:=zh (show Sx.sizeX p<=n/\Sx.okX p/\Sx.numX p from⟨by omega,hrp p H0,hnp p H0⟩);have Hg:(0:Int)<(x.parts.length:Int):=by omega
 simp only[true_or,or_true,ycbZ,ygZ,ytZ]at h4;have H2:0<x.t.length:=by omega
 obtain⟨gt,offt,At1,ct1,Ae1,ce1,Aq1,cq1,rfl,htq,hct⟩:=htt.spot 0 H2;obtain⟨q,hqe⟩:=zE (x.t[0]'H2);have H1:q∈x.t:=by rw[<-hqe];exact yfZ H2
 rw[hqe]at htq hct;rw[yrZ,ypZ]at hct;have Hh:=zh htq;have Hd:=zh hct;have Ha:=Sx.rights_mem h4.2 q H1;have Hi:=Sx.size_mem H1;have H6:=zh (show Sx.size q<=1000000/\(∃d,Sx.rightT NM d q=true)/\0<(Sx.typ q).length from⟨by omega,⟨64,Ha⟩,Sx.typ_pos Ha⟩);have Hf:(0:Int)<(x.t.length:Int):=by omega
 have H8:=zh (show(Sx.part 7 p).length+(Sx.typ q).length<=50000000 by have:=Sx.part_len 7 p;have:=Sx.typ_len q;omega)
 have HT:=zh (show Sx.expr SY x=Sx.part 7 p++[[116,111]]++Sx.typ q by
  rw[Sx.expr_eq,hkd];simp only[Int.reduceEq,Int.reduceLE,ycbZ,yXZ,yjbZ,ylbZ,or_true,true_or,reduceIte,Nat.reduceEqDiff,ymbZ,true_and,and_false,false_and]
  rw[Sx.first_head 7 H4,hpe,Sx.typL_head H2,hqe])
 have Hm:=zh ih;have Hk:=zh (show Sx.sizeX x<=n+1/\n+1<=1000000 from⟨hsz,hn⟩);rw[hkd];obtain⟨L,B,w2,hL,hw2,hB,HX⟩:=boxed hG hN #[.int .i64 x.pos,.int .i64 12,.int .i64 x.n,.string ⟨x.s.toArray⟩,.slice (some ⟨gt,offt,none⟩) x.t.length ct,.slice An x.names.length cn,.slice (some ⟨g,off,none⟩) x.parts.length cp];obtain⟨x0,x1,x2,x3,x4,x5,x6⟩:=zbZ HX.o.box;have Hn:=zaZ HX.o.box;clear hG hN  ih hsz hn ht htt hnn hp hn0 hn1 hrp hnp hok hnum h1 h2 h4 h5 hkd H9 h3 hpe hqe Hl hty0 hc0 H0 H7 htq hct H1 Ha Hi;go_enter Tryz.func34, Tryz.ntmps34;go_upto_region 39 with fail
 clear x0 x1 x2 x3 x4 x5 x6;have hB0:Below B w2 w2.drew:=(HX.o.r2).drew;have hO0:OwnS w2.drew B (.slice none 0 0) ([]):=yOZ _ _ _ _;obtain⟨Fs,⟨F0,F1,F2,F3,F4,F5,F6,F7,F8,F9,F10,F11,F12,F13,-⟩,hstay⟩:=zrZ [IsF (.pointer (some ⟨L,6,none⟩)),IsF (.slice (some ⟨g,off,none⟩) x.parts.length cp),IsF (.pointer (some ⟨g,off,none⟩)),IsF (.agg #[.int .i64 p.pos,.int .i64 p.kind,.int .i64 p.n,.string ⟨p.s.toArray⟩,.slice Atp p.t.length ctp,.slice Anp p.names.length cnp,.slice App p.parts.length cpp]),AppF 0,StrF [[116,111]],AppF 1,IsF (.pointer (some ⟨L,4,none⟩)),IsF (.slice (some ⟨gt,offt,none⟩) x.t.length ct),IsF (.pointer (some ⟨gt,offt,none⟩)),IsF (.agg #[.int .i64 q.kind,.string ⟨q.name.toArray⟩,.slice At1 q.names.length ct1,.slice Ae1 q.embeds.length ce1,.slice Aq1 q.parts.length cq1]),StrF (Sx.typ q),AppF 2,AppF 2];obtain⟨Lf,⟨L0,L1,L2,L3,-⟩,hL⟩:=zbkZ ((Sx.part 7 p)) [[[116,111]],(Sx.typ q)] (by simp only[tot];(have h1:=H8.o;simp only[ycZ,yhZ,ynZ]at *;omega));refine zbbZ (apps:=[4,6,12]) hstay hB0 hO0 L0 L3 F13 ?_ ?_;have H3:=Bx.mk (P:= Tryz.prog) (I:=RowI B w2 (.slice none 0 0) Lf) flX ldA fun _ w _ h=>HX.o.bx w h.1
 ·repeat' first | refine OpsOk.cons ?_ ?_ | fail
  ·exact .fl H3 F0 (.n 1)
  ·exact .ld H3 F1 (.f 143 F0)
  ·refine OpOk.val rfl rfl F2 RowM.rf fun ρ w r k E hI K hK=>?_;have e144:=E.e 144 1 (by kernel_rfl) F1;have c:=E.c;obtain⟨hg,c0,c1,c2,c3,c4,c5,c6⟩:=Hc.o w (HX.o.wx w hI.1);go_simp;exact hK
  ·refine OpOk.val rfl rfl F3 RowM.rf fun ρ w r k E hI K hK=>?_;have e145:=E.e 145 2 (by kernel_rfl) F2;obtain⟨hg,c0,c1,c2,c3,c4,c5,c6⟩:=Hc.o w (HX.o.wx w hI.1);go_simp;exact hK
  ·exact OpOk.hcall rfl rfl F4 HX.o.bb L1 rfl Tryz.func78 (by kernel_rfl) rfl (fun ρ w r k E=>by simp only[yIZ,yPZ,yRZ,E.e 146 3 (by kernel_rfl) F3,E.c];rfl) fun w hb=>zciZ n (by have:=Hk.o;omega) Hm.o p H5.o.1 H5.o.2.1 H5.o.2.2 7 (by omega) _ w (HX.o.gx w hb).1 (HX.o.gx w hb).2 (IsEx.below (HX.o.wx w hb) _ _ Hb.o)
  ·exact .o0 HX.o.bb F5
  ·exact .N 147 148 HX.o.bb hL F6 L1 L2 F4 F5
  ·exact .fl H3 F7 (.n 1)
  ·exact .ld H3 F8 (.f 150 F7)
  ·refine OpOk.val rfl rfl F9 RowM.rf fun ρ w r k E hI K hK=>?_;have e151:=E.e 151 8 (by kernel_rfl) F8;have c:=E.c;obtain⟨hg,c0,c1,c2,c3,c4⟩:=Hd.o w (HX.o.wx w hI.1);go_simp;exact hK
  ·refine OpOk.val rfl rfl F10 RowM.rf fun ρ w r k E hI K hK=>?_;have e152:=E.e 152 9 (by kernel_rfl) F9;obtain⟨hg,c0,c1,c2,c3,c4⟩:=Hd.o w (HX.o.wx w hI.1);go_simp;exact hK
  ·exact .C HX.o.bb F11 Tryz.func28 (.f 153 F10) fun w hb=>zhsZ 1000000 (ybZ _) q H6.o.1 H6.o.2.1 _ w (IsTy.below (HX.o.wx w hb) _ _ Hh.o)
  ·exact .N 149 154 HX.o.bb hL F12 L2 L3 F6 F11 (hm:=H6.o.2.2)
  ·exact .aa F13 F12 155
  ·exact .nil
 ·intro uq wq rq hBz hOz hz;simp only[yyZ,fillAct,Act.put,yoZ,yzZ,yAZ,hz];clear F0 F1 F2 F3 F4 F5 F6 F7 F8 F9 F10 F11 F12 F13 hstay hL L0 L1 L2 L3 hz;have He:=zh hOz;have Hj:=zh hBz;clear hOz hBz;go_wp2_with fail;go_ret;exact⟨_,rfl,by rw[HT.o];first | exact He.o.base_le HX.o.wb | simpa[yiZ]using He.o.base_le HX.o.wb,HX.o.wx _ Hj.o⟩
theorem zxxZ (n:Nat) (hn:n+1<=1000000) (ih:ToldOk n) (x:Sx.Ex) (hsz:Sx.sizeX x<=n+1) (hok:Sx.okX x) (hnum:Sx.numX x) (hkd:x.kind=13) (v:Value) (W:World) (hG:GL W) (hN:NG<=W.heap.size) (ht:IsEx W v x):ToldIs x v W:=by
 unfold ToldIs;obtain⟨hsh,hrp⟩:=hok.shape;obtain⟨hxn,hnp⟩:=Sx.numX_parts hnum;have H5:=Sx.sizeX_parts x;obtain⟨At,ct,An,cn,Ap,cp,rfl,htt,hnn,hp,hn0,hn1⟩:=ht.agg;unfold Sx.shapeX at hsh;simp only[ygZ]at hsh;obtain⟨h1,h2,h3,h4,h5⟩:=hsh;rw[hkd]at h3 h4 h5;have He:x.parts.length=1:=by simp at h5;omega
 have H2:0<x.parts.length:=by omega
 obtain⟨g,off,Atp,ctp,Anp,cnp,App,cpp,rfl,hty0,hc0⟩:=hp.spot 0 H2;obtain⟨p,hpe⟩:=zE (x.parts[0]'H2);have H0:p∈x.parts:=by rw[<-hpe];exact yfZ H2
 rw[hpe]at hty0 hc0;rw[yrZ,ypZ]at hc0;have H6:=zh hty0;have H9:=zh hc0;have H3:=Sx.sizeX_mem H0;have H1:=zh (show Sx.sizeX p<=n/\Sx.okX p/\Sx.numX p from⟨by omega,hrp p H0,hnp p H0⟩);have Hb:(0:Int)<(x.parts.length:Int):=by omega
 have H4:=zh (show(Sx.part 6 p).length<=50000000 by have:=Sx.part_len 6 p;omega);have H7:=zh (Sx.part_pos 6 H1.o.2.1)
 have HT:=zh (show Sx.expr SY x=[[45]]++Sx.part 6 p by
  rw[Sx.expr_eq,hkd];simp only[Int.reduceEq,Int.reduceLE,ycbZ,yXZ,yjbZ,ylbZ,or_true,true_or,reduceIte,Nat.reduceEqDiff,ymbZ,true_and,and_false,false_and];rw[Sx.first_head 6 H2,hpe]
  rfl)
 have Hf:=zh ih;have Hd:=zh (show Sx.sizeX x<=n+1/\n+1<=1000000 from⟨hsz,hn⟩);rw[hkd];obtain⟨L,B,w2,hL,hw2,hB,HX⟩:=boxed hG hN #[.int .i64 x.pos,.int .i64 13,.int .i64 x.n,.string ⟨x.s.toArray⟩,.slice At x.t.length ct,.slice An x.names.length cn,.slice (some ⟨g,off,none⟩) x.parts.length cp];obtain⟨x0,x1,x2,x3,x4,x5,x6⟩:=zbZ HX.o.box;have Hg:=zaZ HX.o.box;clear hG hN  ih hsz hn ht htt hnn hp hn0 hn1 hrp hnp hok hnum h1 h2 h4 h5 hkd H5 h3 hpe He hty0 hc0 H0 H3;go_enter Tryz.func34, Tryz.ntmps34;go_upto_region 41 with fail
 clear x0 x1 x2 x3 x4 x5 x6;have hB0:Below B w2 w2:=HX.o.r2;have hO0:OwnS w2 B (.slice none 0 0) ([]):=yOZ _ _ _ _;obtain⟨Fs,⟨F0,F1,F2,F3,F4,F5,F6,F7,-⟩,hstay⟩:=zrZ [AppF 0,IsF (.pointer (some ⟨L,6,none⟩)),IsF (.slice (some ⟨g,off,none⟩) x.parts.length cp),IsF (.pointer (some ⟨g,off,none⟩)),IsF (.agg #[.int .i64 p.pos,.int .i64 p.kind,.int .i64 p.n,.string ⟨p.s.toArray⟩,.slice Atp p.t.length ctp,.slice Anp p.names.length cnp,.slice App p.parts.length cpp]),StrF (Sx.part 6 p),AppF 1,AppF 1];obtain⟨Lf,⟨L0,L1,L2,-⟩,hL⟩:=zbkZ ([[45]]) [(Sx.part 6 p)] (by simp only[tot];(have h1:=H4.o;simp only[ycZ,yhZ,ynZ]at *;omega));refine zbeZ (apps:=[0,6]) hstay hB0 hO0 L0 L2 F7 ?_ ?_;have H8:=Bx.mk (P:= Tryz.prog) (I:=RowI B w2 (.slice none 0 0) Lf) flX ldA fun _ w _ h=>HX.o.bx w h.1
 ·repeat' first | refine OpsOk.cons ?_ ?_ | fail
  ·exact .h0 HX.o.bb F0 L1
  ·exact .fl H8 F1 (.n 1)
  ·exact .ld H8 F2 (.f 159 F1)
  ·refine OpOk.val rfl rfl F3 RowM.rf fun ρ w r k E hI K hK=>?_;have e160:=E.e 160 2 (by kernel_rfl) F2;have c:=E.c;obtain⟨hg,c0,c1,c2,c3,c4,c5,c6⟩:=H9.o w (HX.o.wx w hI.1);go_simp;exact hK
  ·refine OpOk.val rfl rfl F4 RowM.rf fun ρ w r k E hI K hK=>?_;have e161:=E.e 161 3 (by kernel_rfl) F3;obtain⟨hg,c0,c1,c2,c3,c4,c5,c6⟩:=H9.o w (HX.o.wx w hI.1);go_simp;exact hK
  ·exact OpOk.call rfl rfl F5 HX.o.bb rfl Tryz.func78 (by kernel_rfl) rfl (fun ρ w r k E=>by simp only[yIZ,yPZ,yRZ,E.e 162 4 (by kernel_rfl) F4,E.c];rfl) fun w hb=>zciZ n (by have:=Hd.o;omega) Hf.o p H1.o.1 H1.o.2.1 H1.o.2.2 6 (by omega) _ w (HX.o.gx w hb).1 (HX.o.gx w hb).2 (IsEx.below (HX.o.wx w hb) _ _ H6.o)
  ·exact .N 158 163 HX.o.bb hL F6 L1 L2 F0 F5 (hm:=H7.o)
  ·exact .aa F7 F6 164
  ·exact .nil
 ·intro uq wq rq hBz hOz hz;simp only[yyZ,fillAct,Act.put,yoZ,yzZ,yAZ,hz];clear F0 F1 F2 F3 F4 F5 F6 F7 hstay hL L0 L1 L2 hz;have Ha:=zh hOz;have Hc:=zh hBz;clear hOz hBz;go_wp2_with fail;go_ret;exact⟨_,rfl,by rw[HT.o];first | exact Ha.o.base_le HX.o.wb | simpa[yiZ]using Ha.o.base_le HX.o.wb,HX.o.wx _ Hc.o⟩
theorem zxyZ (n:Nat) (hn:n+1<=1000000) (ih:ToldOk n) (x:Sx.Ex) (hsz:Sx.sizeX x<=n+1) (hok:Sx.okX x) (hnum:Sx.numX x) (hkd:x.kind=14) (v:Value) (W:World) (hG:GL W) (hN:NG<=W.heap.size) (ht:IsEx W v x):ToldIs x v W:=by
 unfold ToldIs;obtain⟨hsh,hrp⟩:=hok.shape;obtain⟨hxn,hnp⟩:=Sx.numX_parts hnum;have H5:=Sx.sizeX_parts x;obtain⟨At,ct,An,cn,Ap,cp,rfl,htt,hnn,hp,hn0,hn1⟩:=ht.agg;unfold Sx.shapeX at hsh;simp only[ygZ]at hsh;obtain⟨h1,h2,h3,h4,h5⟩:=hsh;rw[hkd]at h3 h4 h5;have He:x.parts.length=1:=by simp at h5;omega
 have H2:0<x.parts.length:=by omega
 obtain⟨g,off,Atp,ctp,Anp,cnp,App,cpp,rfl,hty0,hc0⟩:=hp.spot 0 H2;obtain⟨p,hpe⟩:=zE (x.parts[0]'H2);have H0:p∈x.parts:=by rw[<-hpe];exact yfZ H2
 rw[hpe]at hty0 hc0;rw[yrZ,ypZ]at hc0;have H6:=zh hty0;have H9:=zh hc0;have H3:=Sx.sizeX_mem H0;have H1:=zh (show Sx.sizeX p<=n/\Sx.okX p/\Sx.numX p from⟨by omega,hrp p H0,hnp p H0⟩);have Hb:(0:Int)<(x.parts.length:Int):=by omega
 have H4:=zh (show(Sx.part 6 p).length<=50000000 by have:=Sx.part_len 6 p;omega);have H7:=zh (Sx.part_pos 6 H1.o.2.1)
 have HT:=zh (show Sx.expr SY x=[[110,111,116]]++Sx.part 6 p by
  rw[Sx.expr_eq,hkd];simp only[Int.reduceEq,Int.reduceLE,ycbZ,yXZ,yjbZ,ylbZ,or_true,true_or,reduceIte,Nat.reduceEqDiff,ymbZ,true_and,and_false,false_and];rw[Sx.first_head 6 H2,hpe]
  rfl)
 have Hf:=zh ih;have Hd:=zh (show Sx.sizeX x<=n+1/\n+1<=1000000 from⟨hsz,hn⟩);rw[hkd];obtain⟨L,B,w2,hL,hw2,hB,HX⟩:=boxed hG hN #[.int .i64 x.pos,.int .i64 14,.int .i64 x.n,.string ⟨x.s.toArray⟩,.slice At x.t.length ct,.slice An x.names.length cn,.slice (some ⟨g,off,none⟩) x.parts.length cp];obtain⟨x0,x1,x2,x3,x4,x5,x6⟩:=zbZ HX.o.box;have Hg:=zaZ HX.o.box;clear hG hN  ih hsz hn ht htt hnn hp hn0 hn1 hrp hnp hok hnum h1 h2 h4 h5 hkd H5 h3 hpe He hty0 hc0 H0 H3;go_enter Tryz.func34, Tryz.ntmps34;go_upto_region 43 with fail
 clear x0 x1 x2 x3 x4 x5 x6;have hB0:Below B w2 w2:=HX.o.r2;have hO0:OwnS w2 B (.slice none 0 0) ([]):=yOZ _ _ _ _;obtain⟨Fs,⟨F0,F1,F2,F3,F4,F5,F6,F7,-⟩,hstay⟩:=zrZ [AppF 0,IsF (.pointer (some ⟨L,6,none⟩)),IsF (.slice (some ⟨g,off,none⟩) x.parts.length cp),IsF (.pointer (some ⟨g,off,none⟩)),IsF (.agg #[.int .i64 p.pos,.int .i64 p.kind,.int .i64 p.n,.string ⟨p.s.toArray⟩,.slice Atp p.t.length ctp,.slice Anp p.names.length cnp,.slice App p.parts.length cpp]),StrF (Sx.part 6 p),AppF 1,AppF 1];obtain⟨Lf,⟨L0,L1,L2,-⟩,hL⟩:=zbkZ ([[110,111,116]]) [(Sx.part 6 p)] (by simp only[tot];(have h1:=H4.o;simp only[ycZ,yhZ,ynZ]at *;omega));refine zbeZ (apps:=[0,6]) hstay hB0 hO0 L0 L2 F7 ?_ ?_;have H8:=Bx.mk (P:= Tryz.prog) (I:=RowI B w2 (.slice none 0 0) Lf) flX ldA fun _ w _ h=>HX.o.bx w h.1
 ·repeat' first | refine OpsOk.cons ?_ ?_ | fail
  ·exact .h0 HX.o.bb F0 L1
  ·exact .fl H8 F1 (.n 1)
  ·exact .ld H8 F2 (.f 168 F1)
  ·refine OpOk.val rfl rfl F3 RowM.rf fun ρ w r k E hI K hK=>?_;have e169:=E.e 169 2 (by kernel_rfl) F2;have c:=E.c;obtain⟨hg,c0,c1,c2,c3,c4,c5,c6⟩:=H9.o w (HX.o.wx w hI.1);go_simp;exact hK
  ·refine OpOk.val rfl rfl F4 RowM.rf fun ρ w r k E hI K hK=>?_;have e170:=E.e 170 3 (by kernel_rfl) F3;obtain⟨hg,c0,c1,c2,c3,c4,c5,c6⟩:=H9.o w (HX.o.wx w hI.1);go_simp;exact hK
  ·exact OpOk.call rfl rfl F5 HX.o.bb rfl Tryz.func78 (by kernel_rfl) rfl (fun ρ w r k E=>by simp only[yIZ,yPZ,yRZ,E.e 171 4 (by kernel_rfl) F4,E.c];rfl) fun w hb=>zciZ n (by have:=Hd.o;omega) Hf.o p H1.o.1 H1.o.2.1 H1.o.2.2 6 (by omega) _ w (HX.o.gx w hb).1 (HX.o.gx w hb).2 (IsEx.below (HX.o.wx w hb) _ _ H6.o)
  ·exact .N 167 172 HX.o.bb hL F6 L1 L2 F0 F5 (hm:=H7.o)
  ·exact .aa F7 F6 173
  ·exact .nil
 ·intro uq wq rq hBz hOz hz;simp only[yyZ,fillAct,Act.put,yoZ,yzZ,yAZ,hz];clear F0 F1 F2 F3 F4 F5 F6 F7 hstay hL L0 L1 L2 hz;have Ha:=zh hOz;have Hc:=zh hBz;clear hOz hBz;go_wp2_with fail;go_ret;exact⟨_,rfl,by rw[HT.o];first | exact Ha.o.base_le HX.o.wb | simpa[yiZ]using Ha.o.base_le HX.o.wb,HX.o.wx _ Hc.o⟩
theorem zdyZ (n:Nat) (hn:n+1<=1000000) (ih:ToldOk n) (x:Sx.Ex) (hsz:Sx.sizeX x<=n+1) (hok:Sx.okX x) (hnum:Sx.numX x) (kd:Int) (hk1:15<=kd) (hk2:kd<=21) (l:Nat) (hl:Sx.level kd=l) (hl3:¬l=3) (H3:1<=l) (hl5:l<=5) (hkd:x.kind=kd) (v:Value) (W:World) (hG:GL W) (hN:NG<=W.heap.size) (ht:IsEx W v x):ToldIs x v W:=by
 unfold ToldIs;obtain⟨hsh,hrp⟩:=hok.shape;obtain⟨hxn,hnp⟩:=Sx.numX_parts hnum;have Ha:=Sx.sizeX_parts x;obtain⟨At,ct,An,cn,Ap,cp,rfl,htt,hnn,hp,hn0,hn1⟩:=ht.agg;unfold Sx.shapeX at hsh;simp only[ygZ]at hsh;obtain⟨h1,h2,h3,h4,h5⟩:=hsh;rw[hkd,if_neg (by omega),ygZ,if_neg (by omega),if_neg (by omega),if_neg (by omega)]at h5;have Hr:x.parts.length=2:=by simpa using h5.2
 have H4:0<x.parts.length:=by omega
 obtain⟨g,off,Atp,ctp,Anp,cnp,App,cpp,rfl,hty0,hc0⟩:=hp.spot 0 H4;obtain⟨p,hpe⟩:=zE (x.parts[0]'H4);have H0:p∈x.parts:=by rw[<-hpe];exact yfZ H4
 rw[hpe]at hty0 hc0;rw[yrZ,ypZ]at hc0;have Hc:=zh hty0;have He:=zh hc0;have H8:=Sx.sizeX_mem H0;have H6:=zh (show Sx.sizeX p<=n/\Sx.okX p/\Sx.numX p from⟨by omega,hrp p H0,hnp p H0⟩);have Hk:(0:Int)<(x.parts.length:Int):=by omega
 have H3:1<x.parts.length:=by omega
 obtain⟨g',off',Atr,ctr,Anr,cnr,Apr,cpr,hA1,hty1,hc1⟩:=hp.spot 1 H3;injection hA1 with hA1;injection hA1 with e1 e2;subst e1 e2;obtain⟨r,hre⟩:=zE (x.parts[1]'H3);have H1:r∈x.parts:=by rw[<-hre];exact yfZ H3
 rw[hre]at hty1 hc1;rw[Nat.one_mul]at hc1;have Hd:=zh hty1;have Hf:=zh hc1;have H7:=Sx.sizeX_mem H1;have H5:=zh (show Sx.sizeX r<=n/\Sx.okX r/\Sx.numX r from⟨by omega,hrp r H1,hnp r H1⟩);have Hj:(1:Int)<(x.parts.length:Int):=by omega
 have H9:=zh (show(Sx.part l p).length+(Sx.part (l+1) r).length<=50000000 by have:=Sx.part_len l p;have:=Sx.part_len (l+1) r;omega);have Hb:=zh (Sx.part_pos (l+1) H5.o.2.1)
 have HT:=zh (show Sx.expr SY x=Sx.part l p++[Sx.sign kd]++Sx.part (l+1) r by
  rw[Sx.expr_eq,hkd]
  repeat rw[if_neg (by omega)]
  rw[hl,Sx.first_head _ H4,Sx.second_head _ H3,hpe,hre])
 have Hh:=zh ih;have Hg:=zh (show Sx.sizeX x<=n+1/\n+1<=1000000 from⟨hsz,hn⟩);rw[hkd];have k1:(kd==1)=false:=by rw[yaZ];omega
 have k2:(kd==2)=false:=by rw[yaZ];omega
 have k3:(kd==3)=false:=by rw[yaZ];omega
 have k4:(kd==4)=false:=by rw[yaZ];omega
 have k5:(kd==5)=false:=by rw[yaZ];omega
 have k6:(kd==6)=false:=by rw[yaZ];omega
 have k7:(kd==7)=false:=by rw[yaZ];omega
 have k8:(kd==8)=false:=by rw[yaZ];omega
 have k9:(kd==9)=false:=by rw[yaZ];omega
 have Hm:(kd==10)=false:=by rw[yaZ];omega
 have Hs:(kd==11)=false:=by rw[yaZ];omega
 have Hn:(kd==12)=false:=by rw[yaZ];omega
 have Hq:(kd==13)=false:=by rw[yaZ];omega
 have Ht:(kd==14)=false:=by rw[yaZ];omega
 have Hl:(((l:Nat):Int)==3)=false:=by rw[yaZ];omega
 have Hu:IntKind.i64.wrap (((l:Nat):Int)+1)=((l:Nat):Int)+1:=by rw[yQZ];omega
 have Ho:=zh hl;obtain⟨L,B,w2,hL,hw2,hB,HX⟩:=boxed hG hN #[.int .i64 x.pos,.int .i64 kd,.int .i64 x.n,.string ⟨x.s.toArray⟩,.slice At x.t.length ct,.slice An x.names.length cn,.slice (some ⟨g,off,none⟩) x.parts.length cp];obtain⟨x0,x1,x2,x3,x4,x5,x6⟩:=zbZ HX.o.box;have Hv:=zaZ HX.o.box;clear hG hN  ih hsz hn ht htt hnn hp hn0 hn1 hrp hnp hok hnum h1 h2 h3 h4 h5 hkd Ha hpe hre Hr hl hty0 hc0 H0 H8 hty1 hc1 H1 H7;go_enter Tryz.func34, Tryz.ntmps34;go_upto_region 48 with(go_at_call 80;refine(zgoZ kd _ (by omega) hk2).mono ?_;rw[Ho.o];rintro e w3 ⟨rfl,rfl⟩)
 clear x0 x1 x2 x3 x4 x5 x6 k1 k2 k3 k4 k5 k6 k7 k8 k9 Hm Hs Hn Hq Ht;have hB0:Below B w2 w2.drew:=(HX.o.r2).drew;have hO0:OwnS w2.drew B (.slice none 0 0) ([]):=yOZ _ _ _ _;obtain⟨Fs,⟨F0,F1,F2,F3,F4,F5,F6,F7,F8,F9,F10,F11,F12,F13,F14,F15,F16,F17,F18,F19,-⟩,hstay⟩:=zrZ [IsF (.pointer (some ⟨L,6,none⟩)),IsF (.slice (some ⟨g,off,none⟩) x.parts.length cp),IsF (.pointer (some ⟨g,off,none⟩)),IsF (.agg #[.int .i64 p.pos,.int .i64 p.kind,.int .i64 p.n,.string ⟨p.s.toArray⟩,.slice Atp p.t.length ctp,.slice Anp p.names.length cnp,.slice App p.parts.length cpp]),IsF (.int .i64 ((l:Nat):Int)),AppF 0,IsF (.pointer (some ⟨L,1,none⟩)),IsF (.int .i64 kd),IsF (.string ⟨(Sx.sign kd).toArray⟩),StrF [Sx.sign kd],AppF 1,IsF (.pointer (some ⟨L,6,none⟩)),IsF (.slice (some ⟨g,off,none⟩) x.parts.length cp),IsF (.pointer (some ⟨g,off+7,none⟩)),IsF (.agg #[.int .i64 r.pos,.int .i64 r.kind,.int .i64 r.n,.string ⟨r.s.toArray⟩,.slice Atr r.t.length ctr,.slice Anr r.names.length cnr,.slice Apr r.parts.length cpr]),IsF (.int .i64 ((l:Nat):Int)),IsF (.int .i64 (((l:Nat):Int)+1)),StrF (Sx.part (l+1) r),AppF 2,AppF 2];obtain⟨Lf,⟨L0,L1,L2,L3,-⟩,hL⟩:=zbkZ ((Sx.part l p)) [[Sx.sign kd],(Sx.part (l+1) r)] (by simp only[tot];(have h1:=H9.o;simp only[ycZ,yhZ,ynZ]at *;omega));refine zbbZ (apps:=[5,10,18]) hstay hB0 hO0 L0 L3 F19 ?_ ?_;have H2:=Bx.mk (P:= Tryz.prog) (I:=RowI B w2 (.slice none 0 0) Lf) flX ldA fun _ w _ h=>HX.o.bx w h.1
 ·repeat' first | refine OpsOk.cons ?_ ?_ | fail
  ·exact .fl H2 F0 (.n 1)
  ·exact .ld H2 F1 (.f 180 F0)
  ·refine OpOk.val rfl rfl F2 RowM.rf fun ρ w r k E hI K hK=>?_;have e181:=E.e 181 1 (by kernel_rfl) F1;have c:=E.c;obtain⟨hg,c0,c1,c2,c3,c4,c5,c6⟩:=He.o w (HX.o.wx w hI.1);go_simp;exact hK
  ·refine OpOk.val rfl rfl F3 RowM.rf fun ρ w r k E hI K hK=>?_;have e182:=E.e 182 2 (by kernel_rfl) F2;obtain⟨hg,c0,c1,c2,c3,c4,c5,c6⟩:=He.o w (HX.o.wx w hI.1);go_simp;exact hK
  ·exact .m F4 (.n 7)
  ·exact OpOk.hcall (args:=#[.agg #[.int .i64 p.pos,.int .i64 p.kind,.int .i64 p.n,.string ⟨p.s.toArray⟩,.slice Atp p.t.length ctp,.slice Anp p.names.length cnp,.slice App p.parts.length cpp],.int .i64 ((l:Nat):Int)]) rfl rfl F5 HX.o.bb L1 rfl Tryz.func78 (by kernel_rfl) rfl (fun ρ w r k E=>by simp only[yIZ,yPZ,yRZ,E.e 183 3 (by kernel_rfl) F3,E.e 184 4 (by kernel_rfl) F4]) fun w hb=>zciZ n (by have:=Hg.o;omega) Hh.o p H6.o.1 H6.o.2.1 H6.o.2.2 l (by omega) _ w (HX.o.gx w hb).1 (HX.o.gx w hb).2 (IsEx.below (HX.o.wx w hb) _ _ Hc.o)
  ·exact .fl H2 F6 (.n 1)
  ·exact .ld H2 F7 (.f 186 F6)
  ·exact OpOk.pcall (args:=#[.int .i64 kd]) rfl rfl F8 HX.o.bb rfl Tryz.func81 (by kernel_rfl) rfl (fun ρ w r k E=>by simp only[yIZ,yPZ,yRZ,E.e 187 7 (by kernel_rfl) F7]) fun w hb=>(zlzZ kd w hk1 hk2).mono fun e w2 ⟨h1,h2⟩=>⟨h1,by rw[<-h2];exact yqZ _ _⟩
  ·exact .o1 HX.o.bb F9 (.f 188 F8)
  ·exact .N 185 189 HX.o.bb hL F10 L1 L2 F5 F9
  ·exact .fl H2 F11 (.n 1)
  ·exact .ld H2 F12 (.f 191 F11)
  ·refine OpOk.val rfl rfl F13 RowM.rf fun ρ w r k E hI K hK=>?_;have e192:=E.e 192 12 (by kernel_rfl) F12;have c:=E.c;obtain⟨hg,c0,c1,c2,c3,c4,c5,c6⟩:=Hf.o w (HX.o.wx w hI.1);go_simp;exact hK
  ·refine OpOk.val rfl rfl F14 RowM.rf fun ρ w r k E hI K hK=>?_;have e193:=E.e 193 13 (by kernel_rfl) F13;obtain⟨hg,c0,c1,c2,c3,c4,c5,c6⟩:=Hf.o w (HX.o.wx w hI.1);go_simp;exact hK
  ·exact .m F15 (.n 6)
  ·exact .v1 F16 (.f 195 F15)
  ·exact OpOk.call (args:=#[.agg #[.int .i64 r.pos,.int .i64 r.kind,.int .i64 r.n,.string ⟨r.s.toArray⟩,.slice Atr r.t.length ctr,.slice Anr r.names.length cnr,.slice Apr r.parts.length cpr],.int .i64 (((l:Nat):Int)+1)]) rfl rfl F17 HX.o.bb rfl Tryz.func78 (by kernel_rfl) rfl (fun ρ w r k E=>by simp only[yIZ,yPZ,yRZ,E.e 194 14 (by kernel_rfl) F14,E.e 196 16 (by kernel_rfl) F16]) fun w hb=>(by have h:=zciZ n (by have:=Hg.o;omega) Hh.o r H5.o.1 H5.o.2.1 H5.o.2.2 (l+1) (by omega) _ w (HX.o.gx w hb).1 (HX.o.gx w hb).2 (IsEx.below (HX.o.wx w hb) _ _ Hd.o);rw[Int.natCast_add]at h;exact h)
  ·exact .N 190 197 HX.o.bb hL F18 L2 L3 F10 F17 (hm:=Hb.o)
  ·exact .aa F19 F18 198
  ·exact .nil
 ·intro uq wq rq hBz hOz hz;simp only[yyZ,fillAct,Act.put,yoZ,yzZ,yAZ,hz];clear F0 F1 F2 F3 F4 F5 F6 F7 F8 F9 F10 F11 F12 F13 F14 F15 F16 F17 F18 F19 hstay hL L0 L1 L2 L3 hz;have Hi:=zh hOz;have Hp:=zh hBz;clear hOz hBz;go_wp2_with fail;go_ret;exact⟨_,rfl,by rw[HT.o];first | exact Hi.o.base_le HX.o.wb | simpa[yiZ]using Hi.o.base_le HX.o.wb,HX.o.wx _ Hp.o⟩
theorem zmbZ (n:Nat) (hn:n+1<=1000000) (ih:ToldOk n) (x:Sx.Ex) (hsz:Sx.sizeX x<=n+1) (hok:Sx.okX x) (hnum:Sx.numX x) (kd:Int) (hk1:15<=kd) (hk2:kd<=21) (hl:Sx.level kd=3) (hkd:x.kind=kd) (v:Value) (W:World) (hG:GL W) (hN:NG<=W.heap.size) (ht:IsEx W v x):ToldIs x v W:=by
 unfold ToldIs;obtain⟨hsh,hrp⟩:=hok.shape;obtain⟨hxn,hnp⟩:=Sx.numX_parts hnum;have Ha:=Sx.sizeX_parts x;obtain⟨At,ct,An,cn,Ap,cp,rfl,htt,hnn,hp,hn0,hn1⟩:=ht.agg;unfold Sx.shapeX at hsh;simp only[ygZ]at hsh;obtain⟨h1,h2,h3,h4,h5⟩:=hsh;rw[hkd,if_neg (by omega),ygZ,if_neg (by omega),if_neg (by omega),if_neg (by omega)]at h5;have Hq:x.parts.length=2:=by simpa using h5.2
 have H3:0<x.parts.length:=by omega
 obtain⟨g,off,Atp,ctp,Anp,cnp,App,cpp,rfl,hty0,hc0⟩:=hp.spot 0 H3;obtain⟨p,hpe⟩:=zE (x.parts[0]'H3);have H0:p∈x.parts:=by rw[<-hpe];exact yfZ H3
 rw[hpe]at hty0 hc0;rw[yrZ,ypZ]at hc0;have Hc:=zh hty0;have He:=zh hc0;have H8:=Sx.sizeX_mem H0;have H6:=zh (show Sx.sizeX p<=n/\Sx.okX p/\Sx.numX p from⟨by omega,hrp p H0,hnp p H0⟩);have Hk:(0:Int)<(x.parts.length:Int):=by omega
 have H4:1<x.parts.length:=by omega
 obtain⟨g',off',Atr,ctr,Anr,cnr,Apr,cpr,hA1,hty1,hc1⟩:=hp.spot 1 H4;injection hA1 with hA1;injection hA1 with e1 e2;subst e1 e2;obtain⟨r,hre⟩:=zE (x.parts[1]'H4);have H1:r∈x.parts:=by rw[<-hre];exact yfZ H4
 rw[hre]at hty1 hc1;rw[Nat.one_mul]at hc1;have Hd:=zh hty1;have Hf:=zh hc1;have H7:=Sx.sizeX_mem H1;have H5:=zh (show Sx.sizeX r<=n/\Sx.okX r/\Sx.numX r from⟨by omega,hrp r H1,hnp r H1⟩);have Hj:(1:Int)<(x.parts.length:Int):=by omega
 have H9:=zh (show(Sx.part 4 p).length+(Sx.part (3+1) r).length<=50000000 by have:=Sx.part_len 4 p;have:=Sx.part_len (3+1) r;omega);have Hb:=zh (Sx.part_pos (3+1) H5.o.2.1)
 have HT:=zh (show Sx.expr SY x=Sx.part 4 p++[Sx.sign kd]++Sx.part (3+1) r by
  rw[Sx.expr_eq,hkd]
  repeat rw[if_neg (by omega)]
  rw[hl,if_pos rfl,Sx.first_head _ H3,Sx.second_head _ H4,hpe,hre])
 have Hh:=zh ih;have Hg:=zh (show Sx.sizeX x<=n+1/\n+1<=1000000 from⟨hsz,hn⟩);rw[hkd];have k1:(kd==1)=false:=by rw[yaZ];omega
 have k2:(kd==2)=false:=by rw[yaZ];omega
 have k3:(kd==3)=false:=by rw[yaZ];omega
 have k4:(kd==4)=false:=by rw[yaZ];omega
 have k5:(kd==5)=false:=by rw[yaZ];omega
 have k6:(kd==6)=false:=by rw[yaZ];omega
 have k7:(kd==7)=false:=by rw[yaZ];omega
 have k8:(kd==8)=false:=by rw[yaZ];omega
 have k9:(kd==9)=false:=by rw[yaZ];omega
 have Hl:(kd==10)=false:=by rw[yaZ];omega
 have Hr:(kd==11)=false:=by rw[yaZ];omega
 have Hm:(kd==12)=false:=by rw[yaZ];omega
 have Hp:(kd==13)=false:=by rw[yaZ];omega
 have Hs:(kd==14)=false:=by rw[yaZ];omega
 have Hn:=zh hl;obtain⟨L,B,w2,hL,hw2,hB,HX⟩:=boxed hG hN #[.int .i64 x.pos,.int .i64 kd,.int .i64 x.n,.string ⟨x.s.toArray⟩,.slice At x.t.length ct,.slice An x.names.length cn,.slice (some ⟨g,off,none⟩) x.parts.length cp];obtain⟨x0,x1,x2,x3,x4,x5,x6⟩:=zbZ HX.o.box;have Ht:=zaZ HX.o.box;clear hG hN  ih hsz hn ht htt hnn hp hn0 hn1 hrp hnp hok hnum h1 h2 h3 h4 h5 hkd Ha hpe hre Hq hl hty0 hc0 H0 H8 hty1 hc1 H1 H7;go_enter Tryz.func34, Tryz.ntmps34;go_upto_region 48 with(go_at_call 80;refine(zgoZ kd _ (by omega) hk2).mono ?_;rw[Hn.o];rintro e w3 ⟨rfl,rfl⟩)
 clear x0 x1 x2 x3 x4 x5 x6 k1 k2 k3 k4 k5 k6 k7 k8 k9 Hl Hr Hm Hp Hs;have hB0:Below B w2 w2.drew:=(HX.o.r2).drew;have hO0:OwnS w2.drew B (.slice none 0 0) ([]):=yOZ _ _ _ _;obtain⟨Fs,⟨F0,F1,F2,F3,F4,F5,F6,F7,F8,F9,F10,F11,F12,F13,F14,F15,F16,F17,F18,F19,-⟩,hstay⟩:=zrZ [IsF (.pointer (some ⟨L,6,none⟩)),IsF (.slice (some ⟨g,off,none⟩) x.parts.length cp),IsF (.pointer (some ⟨g,off,none⟩)),IsF (.agg #[.int .i64 p.pos,.int .i64 p.kind,.int .i64 p.n,.string ⟨p.s.toArray⟩,.slice Atp p.t.length ctp,.slice Anp p.names.length cnp,.slice App p.parts.length cpp]),IsF (.int .i64 4),AppF 0,IsF (.pointer (some ⟨L,1,none⟩)),IsF (.int .i64 kd),IsF (.string ⟨(Sx.sign kd).toArray⟩),StrF [Sx.sign kd],AppF 1,IsF (.pointer (some ⟨L,6,none⟩)),IsF (.slice (some ⟨g,off,none⟩) x.parts.length cp),IsF (.pointer (some ⟨g,off+7,none⟩)),IsF (.agg #[.int .i64 r.pos,.int .i64 r.kind,.int .i64 r.n,.string ⟨r.s.toArray⟩,.slice Atr r.t.length ctr,.slice Anr r.names.length cnr,.slice Apr r.parts.length cpr]),IsF (.int .i64 3),IsF (.int .i64 (4)),StrF (Sx.part (3+1) r),AppF 2,AppF 2];obtain⟨Lf,⟨L0,L1,L2,L3,-⟩,hL⟩:=zbkZ ((Sx.part 4 p)) [[Sx.sign kd],(Sx.part (3+1) r)] (by simp only[tot];(have h1:=H9.o;simp only[ycZ,yhZ,ynZ]at *;omega));refine zbbZ (apps:=[5,10,18]) hstay hB0 hO0 L0 L3 F19 ?_ ?_;have H2:=Bx.mk (P:= Tryz.prog) (I:=RowI B w2 (.slice none 0 0) Lf) flX ldA fun _ w _ h=>HX.o.bx w h.1
 ·repeat' first | refine OpsOk.cons ?_ ?_ | fail
  ·exact .fl H2 F0 (.n 1)
  ·exact .ld H2 F1 (.f 180 F0)
  ·refine OpOk.val rfl rfl F2 RowM.rf fun ρ w r k E hI K hK=>?_;have e181:=E.e 181 1 (by kernel_rfl) F1;have c:=E.c;obtain⟨hg,c0,c1,c2,c3,c4,c5,c6⟩:=He.o w (HX.o.wx w hI.1);go_simp;exact hK
  ·refine OpOk.val rfl rfl F3 RowM.rf fun ρ w r k E hI K hK=>?_;have e182:=E.e 182 2 (by kernel_rfl) F2;obtain⟨hg,c0,c1,c2,c3,c4,c5,c6⟩:=He.o w (HX.o.wx w hI.1);go_simp;exact hK
  ·exact .m F4 (.n 7)
  ·exact OpOk.hcall (args:=#[.agg #[.int .i64 p.pos,.int .i64 p.kind,.int .i64 p.n,.string ⟨p.s.toArray⟩,.slice Atp p.t.length ctp,.slice Anp p.names.length cnp,.slice App p.parts.length cpp],.int .i64 4]) rfl rfl F5 HX.o.bb L1 rfl Tryz.func78 (by kernel_rfl) rfl (fun ρ w r k E=>by simp only[yIZ,yPZ,yRZ,E.e 183 3 (by kernel_rfl) F3,E.e 184 4 (by kernel_rfl) F4]) fun w hb=>zciZ n (by have:=Hg.o;omega) Hh.o p H6.o.1 H6.o.2.1 H6.o.2.2 4 (by omega) _ w (HX.o.gx w hb).1 (HX.o.gx w hb).2 (IsEx.below (HX.o.wx w hb) _ _ Hc.o)
  ·exact .fl H2 F6 (.n 1)
  ·exact .ld H2 F7 (.f 186 F6)
  ·exact OpOk.pcall (args:=#[.int .i64 kd]) rfl rfl F8 HX.o.bb rfl Tryz.func81 (by kernel_rfl) rfl (fun ρ w r k E=>by simp only[yIZ,yPZ,yRZ,E.e 187 7 (by kernel_rfl) F7]) fun w hb=>(zlzZ kd w hk1 hk2).mono fun e w2 ⟨h1,h2⟩=>⟨h1,by rw[<-h2];exact yqZ _ _⟩
  ·exact .o1 HX.o.bb F9 (.f 188 F8)
  ·exact .N 185 189 HX.o.bb hL F10 L1 L2 F5 F9
  ·exact .fl H2 F11 (.n 1)
  ·exact .ld H2 F12 (.f 191 F11)
  ·refine OpOk.val rfl rfl F13 RowM.rf fun ρ w r k E hI K hK=>?_;have e192:=E.e 192 12 (by kernel_rfl) F12;have c:=E.c;obtain⟨hg,c0,c1,c2,c3,c4,c5,c6⟩:=Hf.o w (HX.o.wx w hI.1);go_simp;exact hK
  ·refine OpOk.val rfl rfl F14 RowM.rf fun ρ w r k E hI K hK=>?_;have e193:=E.e 193 13 (by kernel_rfl) F13;obtain⟨hg,c0,c1,c2,c3,c4,c5,c6⟩:=Hf.o w (HX.o.wx w hI.1);go_simp;exact hK
  ·exact .m F15 (.n 6)
  ·exact .v1 F16 (.f 195 F15)
  ·exact OpOk.call (args:=#[.agg #[.int .i64 r.pos,.int .i64 r.kind,.int .i64 r.n,.string ⟨r.s.toArray⟩,.slice Atr r.t.length ctr,.slice Anr r.names.length cnr,.slice Apr r.parts.length cpr],.int .i64 (4)]) rfl rfl F17 HX.o.bb rfl Tryz.func78 (by kernel_rfl) rfl (fun ρ w r k E=>by simp only[yIZ,yPZ,yRZ,E.e 194 14 (by kernel_rfl) F14,E.e 196 16 (by kernel_rfl) F16]) fun w hb=>zciZ n (by have:=Hg.o;omega) Hh.o r H5.o.1 H5.o.2.1 H5.o.2.2 (3+1) (by omega) _ w (HX.o.gx w hb).1 (HX.o.gx w hb).2 (IsEx.below (HX.o.wx w hb) _ _ Hd.o)
  ·exact .N 190 197 HX.o.bb hL F18 L2 L3 F10 F17 (hm:=Hb.o)
  ·exact .aa F19 F18 198
  ·exact .nil
 ·intro uq wq rq hBz hOz hz;simp only[yyZ,fillAct,Act.put,yoZ,yzZ,yAZ,hz];clear F0 F1 F2 F3 F4 F5 F6 F7 F8 F9 F10 F11 F12 F13 F14 F15 F16 F17 F18 F19 hstay hL L0 L1 L2 L3 hz;have Hi:=zh hOz;have Ho:=zh hBz;clear hOz hBz;go_wp2_with fail;go_ret;exact⟨_,rfl,by rw[HT.o];first | exact Hi.o.base_le HX.o.wb | simpa[yiZ]using Hi.o.base_le HX.o.wb,HX.o.wx _ Ho.o⟩
end Go.Proofs.YtdncljdfmdgdaaaGreatDoor
