/-
  The walk of coilref2's Told at records, and at all.
-/
import Derived.Test.YtdncljdfmdgdaaaGreatDoorM29
set_option linter.unusedSimpArgs false
set_option linter.unusedVariables false
set_option maxRecDepth 100000
set_option maxHeartbeats 16000000
namespace Go.Proofs.YtdncljdfmdgdaaaGreatDoor
open Go.RowKit Go.Shelf
attribute [local go_sem] opWp zoZ zvZ zpZ
theorem zxzZ (n:Nat) (hn:n+1<=1000000) (ih:ToldOk n) (x:Sx.Ex) (hsz:Sx.sizeX x<=n+1) (hok:Sx.okX x) (hnum:Sx.numX x) (hkd:x.kind=11) (v:Value) (W:World) (hG:GL W) (hN:NG<=W.heap.size) (ht:IsEx W v x):ToldIs x v W:=by
 unfold ToldIs;obtain⟨hsh,hrp⟩:=hok.shape;obtain⟨hxn,hnp⟩:=Sx.numX_parts hnum;have Hj:=Sx.sizeX_parts x;obtain⟨At,ct,An,cn,Ap,cp,rfl,htt,hnn,hp,hn0,hn1⟩:=ht.agg;unfold Sx.shapeX at hsh;simp only[ygZ]at hsh;obtain⟨h1,h2,h3,h4,h5⟩:=hsh;rw[hkd]at h3 h4 h5;have Hx:1<=x.parts.length:=by simp at h5;omega
 have H5:0<x.parts.length:=by omega
 obtain⟨g,off,Atp,ctp,Anp,cnp,App,cpp,rfl,hty0,hc0⟩:=hp.spot 0 H5;obtain⟨p,hpe⟩:=zE (x.parts[0]'H5);have H0:p∈x.parts:=by rw[<-hpe];exact yfZ H5
 rw[hpe]at hty0 hc0;rw[yrZ,ypZ]at hc0;have Hp:=zh hty0;have Ht:=zh hc0;have Hh:=Sx.sizeX_mem H0;have H9:=zh (show Sx.sizeX p<=n/\Sx.okX p/\Sx.numX p from⟨by omega,hrp p H0,hnp p H0⟩);have Hw:(0:Int)<(x.parts.length:Int):=by omega
 have H3:=zh (show(Sx.part 7 p).length<=20000000 by have:=Sx.part_len 7 p;omega);have Hq:=zh (Sx.part_pos 7 H9.o.2.1);obtain⟨V,hV⟩:=zE (sliced (some ⟨g,off,none⟩) 1 x.parts.length cp 7);have H8:∀w,(Instr.slice 37 (.slice (some ⟨g,off,none⟩) x.parts.length cp) (some (.int .i64 1)) none none).run Tryz.prog w=.ok V w:=fun w=>by rw[zfdZ _ _ _ _ (by omega),hV]
 have Hv:ExRow W V x.parts.tail:=by rw[<-hV];exact hp.tail H5
 have Hf:∀y∈x.parts.tail,y∈x.parts:=fun y hy=>List.mem_of_mem_tail hy;have Hz:Sx.sizeXs x.parts.tail<=Sx.sizeXs x.parts:=by
  generalize x.parts=ll
  cases ll with
  | nil=>exact ybZ _
  | cons y l=>rw[List.tail_cons,Sx.sizeXs];omega
 have H2:=zh (show Sx.sizeXs x.parts.tail<=n/\(∀y∈x.parts.tail,Sx.okX y)/\(∀y∈x.parts.tail,Sx.numX y)/\ExRow W V x.parts.tail from⟨by omega,fun y hy=>hrp y (Hf y hy),fun y hy=>hnp y (Hf y hy),Hv⟩)
 have Hg:=zh (show(Sx.listed x.parts.tail).length<=20000000 by
  unfold Sx.listed;have:=Sx.list_len SY 0 x.parts.tail;simp only[ycZ,yhZ,ynZ]
  omega)
 have Hk:=zh (show 0<(Sx.listed x.parts.tail).length by unfold Sx.listed;exact zbiZ (yVZ _));have Hl:=Sx.args_tail H5;obtain⟨tl,htl⟩:=zE (x.parts.tail);rw[htl]at H2 Hg Hk Hl
 have HT:=zh (show Sx.expr SY x=(if p.kind=9 then [[40]]++Sx.part 7 p++[[41]]else Sx.part 7 p)++Sx.listed tl by
  rw[Sx.expr_eq,hkd];simp only[Int.reduceEq,Int.reduceLE,ycbZ,yXZ,yjbZ,ylbZ,or_true,true_or,reduceIte,Nat.reduceEqDiff,ymbZ,true_and,and_false,false_and];rw[Sx.applied_head H5,hpe,Hl];by_cases h9:p.kind=9
  ·rw[if_pos h9,if_pos h9];unfold Sx.part;rw[h9,show Sx.level 9=7 from rfl,if_neg (by omega)];rfl
  ·rw[if_neg h9,if_neg h9])
 have Ho:=zh ih;have Hn:=zh (show Sx.sizeX x<=n+1/\n+1<=1000000 from⟨hsz,hn⟩);rw[hkd];obtain⟨L,B,w2,hL,hw2,hB,HX⟩:=boxed hG hN #[.int .i64 x.pos,.int .i64 11,.int .i64 x.n,.string ⟨x.s.toArray⟩,.slice At x.t.length ct,.slice An x.names.length cn,.slice (some ⟨g,off,none⟩) x.parts.length cp];obtain⟨x0,x1,x2,x3,x4,x5,x6⟩:=zbZ HX.o.box;have Hb:=zaZ HX.o.box;clear hG hN  ih hsz hn ht htt hnn hp hn0 hn1 hrp hnp hok hnum h1 h2 h4 h5 hkd Hj h3 hpe Hx hty0 hc0 H0 Hh hV Hv Hf Hz htl Hl;go_enter Tryz.func34, Tryz.ntmps34;obtain⟨hg,c0,c1,c2,c3,c4,c5,c6⟩:=Ht.o w2 (HX.o.wx w2 HX.o.r2);go_upto_region 35 with(go_at_call 78;refine(zciZ n (by have:=Hn.o;omega) Ho.o p H9.o.1 H9.o.2.1 H9.o.2.2 7 (by omega) _ w2 (HX.o.gx w2 HX.o.r2).1 (HX.o.gx w2 HX.o.r2).2 (IsEx.below (HX.o.wx w2 HX.o.r2) _ _ Hp.o)).mono ?_;rintro e w3 ⟨u3,rfl,Ha,He⟩;obtain⟨A3,e3,rfl⟩:=Ha.slice;rw[hB]at Ha He;have Hs:=zh Ha;have H4:=zh He;clear Ha He x0 x1 x2 x3 x4 x5 x6 Hb hg c0 c1 c2 c3 c4 c5 c6);obtain⟨x0,x1,x2,x3,x4,x5,x6⟩:=zbZ (HX.o.bx w3 H4.o);have Hb:=zaZ (HX.o.bx w3 H4.o);obtain⟨hg,c0,c1,c2,c3,c4,c5,c6⟩:=Ht.o w3 (HX.o.wx w3 H4.o);by_cases h9:p.kind=9
 ·rw[if_pos h9]at HT;have Hd:(p.kind==9)=true:=(by rw[h9];rfl);have Hi:=zh Hs.o.row;obtain⟨B3,hB3⟩:=zE (w3.heap.size);have Hr:=zh hB3;have H1:=zh (show B3<=w3.heap.size by rw[hB3];exact ybZ _);have H7:=zh (show B<=B3 by rw[<-hB3];exact ymZ HX.o.bb H4.o.size);go_upto_region 36 with fail
  clear x0 x1 x2 x3 x4 x5 x6 Hb hg c0 c1 c2 c3 c4 c5 c6 Hd;have hB0:Below B3 w3 w3:=yqZ _ _;have hO0:OwnS w3 B3 (.slice none 0 0) []:=yOZ _ _ _ _;obtain⟨Fs,⟨F0,F1,F2,F3,F4,F5,-⟩,hstay⟩:=zrZ [AppF 0,StrF (Sx.part 7 p),AppF 1,StrF [[41]],AppF 2,AppF 2];obtain⟨Lf,⟨L0,L1,L2,L3,-⟩,hL⟩:=zbkZ ([[40]]) [(Sx.part 7 p),[[41]]] (by simp only[tot];(have h1:=H3.o;simp only[ycZ,yhZ,ynZ]at *;omega));refine zbeZ (apps:=[0,2,4]) hstay hB0 hO0 L0 L3 F5 ?_ ?_
  ·repeat' first | refine OpsOk.cons ?_ ?_ | fail
   ·exact .h0 H1.o F0 L1
   ·exact .rv Hr.o F1 Hi.o (.z 5 5 [4,2,1])
   ·exact .N 130 131 H1.o hL F2 L1 L2 F0 F1 (hm:=Hq.o)
   ·exact .o0 H1.o F3
   ·exact .N 132 133 H1.o hL F4 L2 L3 F2 F3
   ·exact .aa F5 F4 134
   ·exact .nil
  ·intro uq wq rq hBz hOz hz;simp only[yyZ,fillAct,Act.put,yoZ,yzZ,yAZ,hz];clear F0 F1 F2 F3 F4 F5 hstay hL L0 L1 L2 L3 hz;obtain⟨A9,c9,rfl⟩:=hOz.slice;have Hc:=zh (hOz.base_le H7.o);have Hm:=zh (H4.o.trans (hBz.mono H7.o));clear hOz hBz;go_upto_region 37 with fail
   have hB0:Below B w2 wq:=Hm.o;have hO0:OwnS wq B (.slice A9 ([[40]]++Sx.part 7 p++[[41]]).length c9) ([[40]]++Sx.part 7 p++[[41]]):=Hc.o;obtain⟨Fs,⟨F0,F1,F2,F3,F4,F5,F6,-⟩,hstay⟩:=zrZ [IsF (.slice A9 ([[40]]++Sx.part 7 p++[[41]]).length c9),IsF (.pointer (some ⟨L,6,none⟩)),IsF (.slice (some ⟨g,off,none⟩) x.parts.length cp),IsF (V),StrF (Sx.listed tl),AppF 0,AppF 0];obtain⟨Lf,⟨L0,L1,-⟩,hL⟩:=zbdZ (([[40]]++Sx.part 7 p++[[41]])) [(Sx.listed tl)] (by simp only[tot];(have h1:=H3.o;have h2:=Hg.o;(try simp only[ycZ,yhZ,ynZ]at *);omega));refine zbeZ (apps:=[5]) hstay hB0 hO0 L0 L1 F6 ?_ ?_;have H6:=Bx.mk (P:= Tryz.prog) (I:=RowI B w2 (.slice A9 ([[40]]++Sx.part 7 p++[[41]]).length c9) Lf) flX ldA fun _ w _ h=>HX.o.bx w h.1
   ·repeat' first | refine OpsOk.cons ?_ ?_ | fail
    ·exact .m F0 (.n 5)
    ·exact .fl H6 F1 (.n 1)
    ·exact .ld H6 F2 (.f 136 F1)
    ·refine OpOk.val rfl rfl F3 RowM.rf fun ρ w r k E hI K hK=>?_;have e137:=E.e 137 2 (by kernel_rfl) F2;have c:=E.c;have hr:=H8 w;go_simp;exact hK
    ·exact .C HX.o.bb F4 Tryz.func79 (.f 138 F3) fun w hb=>zhwZ n (by have:=Hn.o;omega) Ho.o tl H2.o.1 H2.o.2.1 H2.o.2.2.1 _ w (HX.o.gx w hb).1 (HX.o.gx w hb).2 (H2.o.2.2.2.below (HX.o.wx w hb))
    ·exact .N0 135 139 HX.o.bb hL F5 L0 L1 F0 F4 (hm:=Hk.o)
    ·exact .aa F6 F5 140
    ·exact .nil
   ·intro uq wq rq hBz hOz hz;simp only[yyZ,fillAct,Act.put,yoZ,yzZ,yAZ,hz];clear F0 F1 F2 F3 F4 F5 F6 hstay hL L0 L1 hz;have Hu:=zh hOz;have Hy:=zh hBz;clear hOz hBz;go_wp2_with fail;go_ret;exact⟨_,rfl,by rw[HT.o];first | exact Hu.o.base_le HX.o.wb | simpa[yiZ]using Hu.o.base_le HX.o.wb,HX.o.wx _ Hy.o⟩
 ·rw[if_neg h9]at HT;have Hd:(p.kind==9)=false:=(by rw[yaZ];exact h9);go_upto_region 37 with fail
  clear x0 x1 x2 x3 x4 x5 x6 Hb hg c0 c1 c2 c3 c4 c5 c6 Hd;have hB0:Below B w2 w3:=H4.o;have hO0:OwnS w3 B (.slice A3 (Sx.part 7 p).length e3) (Sx.part 7 p):=Hs.o;obtain⟨Fs,⟨F0,F1,F2,F3,F4,F5,F6,-⟩,hstay⟩:=zrZ [IsF (.slice A3 (Sx.part 7 p).length e3),IsF (.pointer (some ⟨L,6,none⟩)),IsF (.slice (some ⟨g,off,none⟩) x.parts.length cp),IsF (V),StrF (Sx.listed tl),AppF 0,AppF 0];obtain⟨Lf,⟨L0,L1,-⟩,hL⟩:=zbdZ ((Sx.part 7 p)) [(Sx.listed tl)] (by simp only[tot];(have h1:=H3.o;have h2:=Hg.o;(try simp only[ycZ,yhZ,ynZ]at *);omega));refine zbeZ (apps:=[5]) hstay hB0 hO0 L0 L1 F6 ?_ ?_;have H6:=Bx.mk (P:= Tryz.prog) (I:=RowI B w2 (.slice A3 (Sx.part 7 p).length e3) Lf) flX ldA fun _ w _ h=>HX.o.bx w h.1
  ·repeat' first | refine OpsOk.cons ?_ ?_ | fail
   ·exact .m F0 (.n 5)
   ·exact .fl H6 F1 (.n 1)
   ·exact .ld H6 F2 (.f 136 F1)
   ·refine OpOk.val rfl rfl F3 RowM.rf fun ρ w r k E hI K hK=>?_;have e137:=E.e 137 2 (by kernel_rfl) F2;have c:=E.c;have hr:=H8 w;go_simp;exact hK
   ·exact .C HX.o.bb F4 Tryz.func79 (.f 138 F3) fun w hb=>zhwZ n (by have:=Hn.o;omega) Ho.o tl H2.o.1 H2.o.2.1 H2.o.2.2.1 _ w (HX.o.gx w hb).1 (HX.o.gx w hb).2 (H2.o.2.2.2.below (HX.o.wx w hb))
   ·exact .N0 135 139 HX.o.bb hL F5 L0 L1 F0 F4 (hm:=Hk.o)
   ·exact .aa F6 F5 140
   ·exact .nil
  ·intro uq wq rq hBz hOz hz;simp only[yyZ,fillAct,Act.put,yoZ,yzZ,yAZ,hz];clear F0 F1 F2 F3 F4 F5 F6 hstay hL L0 L1 hz;have Hc:=zh hOz;have Hm:=zh hBz;clear hOz hBz;go_wp2_with fail;go_ret;exact⟨_,rfl,by rw[HT.o];first | exact Hc.o.base_le HX.o.wb | simpa[yiZ]using Hc.o.base_le HX.o.wb,HX.o.wx _ Hm.o⟩
theorem told7 (n:Nat) (hn:n+1<=1000000) (ih:ToldOk n) (x:Sx.Ex) (hsz:Sx.sizeX x<=n+1) (hok:Sx.okX x) (hnum:Sx.numX x) (hkd:x.kind=7) (v:Value) (W:World) (hG:GL W) (hN:NG<=W.heap.size) (ht:IsEx W v x):ToldIs x v W:=by
 unfold ToldIs;obtain⟨hsh,Hw⟩:=hok.shape;obtain⟨hxn,J4⟩:=Sx.numX_parts hnum;have Hm:=Sx.sizeX_parts x;obtain⟨At,ct,An,cn,Ap,cp,rfl,htt,hnn,hp,hn0,hn1⟩:=ht.agg;unfold Sx.shapeX at hsh;simp only[ygZ]at hsh;obtain⟨h1,h2,h3,h4,h5⟩:=hsh;rw[hkd]at h3 h4 h5;have J3:x.names.length=x.parts.length:=by simp at h5;omega
 have Hu:=zh J3;have Hs:=zh (And.intro Hw J4);have HP:=zh hp;have Ji:=zh hnn;obtain⟨k,hk⟩:=zE (x.parts.length);have Hq:=zh (show Sx.sizeXs x.parts<=n by omega);have Jf:=Sx.length_sizeXs x.parts;have Jk:(k:Int)<=1000000:=by omega
 have HK:=zh hk;have Hp:x.names.length=k:=by omega
 have H1:=zh (show([x.s,[123]]).length<=50 by simp)
 have HT:=zh (show Sx.expr SY x=[x.s,[123]]++Sx.record SY 0 x.names x.parts++[[125]]by
  rw[Sx.expr_eq,hkd];simp only[Int.reduceEq,Int.reduceLE,ycbZ,yXZ,yjbZ,ylbZ,or_true,true_or,reduceIte,Nat.reduceEqDiff,ymbZ,true_and,and_false,false_and]
  try rfl)
 have Hz:=zh ih;have J5:=zh (show Sx.sizeX x<=n+1/\n+1<=1000000 from⟨hsz,hn⟩);rw[hkd];obtain⟨L,B,w2,hL,hw2,hB,HX⟩:=boxed hG hN #[.int .i64 x.pos,.int .i64 7,.int .i64 x.n,.string ⟨x.s.toArray⟩,.slice At x.t.length ct,.slice An x.names.length cn,.slice Ap x.parts.length cp];obtain⟨x0,x1,x2,x3,x4,x5,x6⟩:=zbZ HX.o.box;have Jj:=zaZ HX.o.box;clear hG hN  ih hsz hn ht htt hnn hp hn0 hn1 Hw J4 hok hnum h1 h2 h4 h5 hkd Hm h3 J3 Jf hk Hp;go_enter Tryz.func34, Tryz.ntmps34;rw[HK.o]at x6;have Hh:OwnS w2 B (.slice none 0 0) []:=yOZ _ _ _ _;have He:=zh Hh;clear Hh;go_upto_region 21 with fail
 obtain⟨wa,hwa⟩:=zE (w2.alloc (.cells #[.string ⟨x.s.toArray⟩,.string ⟨#[123]⟩] 9));have H6:OwnS wa B (.slice none 0 0) ([]):=by rw[<-hwa];exact He.o.below ((yqZ _ _).alloc (ybZ _) _)
 have H5:Below B w2 wa:=by rw[<-hwa];exact(HX.o.r2).alloc (ymZ HX.o.bb (HX.o.r2).size) _
 have H3:Str wa (.slice (some ⟨B,0,none⟩) 2 2) [x.s,[123]] (.slice none 0 0):=by rw[<-hwa];rw[<-hB];exact Str.arr (m:=[x.s,[123]]) (ydZ w2 _) rfl (fun q hq=>(He.o.lt q hq).2)
 have Hf:=zh H6;have H9:=zh H5;have Ho:=zh H3;clear H6 H5 H3;go_wp2_with (at_builtin;refine zlZ rfl _ _ rfl rfl rfl Hf.o Ho.o (by simp) (by have:=H1.o;simp only[ycZ,yhZ,ynZ]at *;omega) (ymZ HX.o.bb H9.o.size) ?_;intro rb wb hO5 H4;have hB5:=zyZ H9.o (ymZ HX.o.bb H9.o.size) H4 (fun g hg=>(Hf.o.lt g hg).1);have J6:=zh hO5;have Ja:=zh hB5;clear hO5 hB5 H4 x0 x1 x2 x3 x4 x5 x6 Jj);obtain⟨Ab,cb,rfl⟩:=J6.o.slice;have Jh:=zh (show OwnS wb B (.slice Ab ([]++[x.s,[123]]:List Lx.Bytes).length cb) ([x.s,[123]]++Sx.record SY 0 (x.names.take 0) (x.parts.take 0))by have:=J6.o;simpa[Sx.record]using this);go_loopg [3,4] k (fun i v3 v4 wr=>∃(m:Nat) (A5:Option Addr) (n5 c5:Nat),i=k-m/\v3=.slice A5 n5 c5/\v4=.int .i64 (m:Nat)/\m<=k/\OwnS wr B (.slice A5 n5 c5) ([x.s,[123]]++Sx.record SY 0 (x.names.take m) (x.parts.take m))/\Below B w2 wr)
 case atStart=>exact⟨0,Ab,_,cb,rfl,rfl,rfl,yxZ _,Jh.o,Ja.o⟩
 case round=>
  obtain⟨m,A5,n5,c5,hi,rfl,rfl,hm,ho,hb⟩:=hrel;have HI:=zh hi;have HO:=zh ho;have Ha:=zh hb;have m0:(0:Int)<=(m:Int):=(by omega);have m1:(m:Int)<=1000000:=(by omega);clear hi ho hb H1;obtain⟨x0,x1,x2,x3,x4,x5,x6⟩:=zbZ (HX.o.bx wr Ha.o);rw[HK.o]at x6;have J0:=zaZ (HX.o.bx wr Ha.o);by_cases hlt:m<k
  ·have J8:(m:Int)<(k:Int):=(by omega);have Jl:IntKind.i64.wrap ((m:Int)+1)=(m:Int)+1:=(by rw[yQZ];omega);have Hl:m<x.parts.length:=(by have:=HK.o;omega);have Hy:m<x.names.length:=(by have:=Hu.o;omega);have J7:(m:Int)<(x.names.length:Int):=(by omega);have H0:=yfZ Hl;have Hk:=Sx.record_take Hu.o Hl;obtain⟨g,off,Atp,ctp,Anp,cnp,App,cpp,rfl,hty,hc5⟩:=HP.o.spot m Hl;obtain⟨g1,off1,rfl,hsp1⟩:=Ji.o.spot m Hy;obtain⟨p,hpe⟩:=zE (x.parts[m]'Hl);obtain⟨s,hse⟩:=zE (x.names[m]'Hy);rw[hpe]at hty hc5 Hk H0;rw[hse]at hsp1 Hk;have J9:=Sx.sizeX_mem H0;have Jb:=Sx.sizeXs_take_le x.parts m;have Hb:=zh (show Sx.sizeX p<=n/\Sx.okX p/\Sx.numX p from⟨by have:=Hq.o;omega,Hs.o.1 p H0,Hs.o.2 p H0⟩);have Hc:=zh (Sx.expr_pos (Hs.o.1 p H0))
   have H1:=zh (show([x.s,[123]]++Sx.record SY 0 (x.names.take m) (x.parts.take m)).length+(Sx.expr SY p).length<=50000000 by
    have h1:=Sx.record_len SY 0 (x.names.take m) (x.parts.take m);have h2:=Sx.expr_len SY p;have h3:=J5.o;have h4:=Hq.o;simp only[ycZ,yhZ,ynZ]
    omega)
   have J2:=zh hty;have Hj:=zh hc5;have Hx:=zh Hk;have Hi:=zh hsp1;clear hty hc5 Hk H0 J9 Jb hpe hse hsp1;by_cases hz:0<m
   ·have Je:(0:Int)<(m:Int):=(by omega);obtain⟨wa,hwa⟩:=zE (wr.alloc (.cells #[.string ⟨#[44]⟩] 9));have H6:OwnS wa B (.slice A5 n5 c5) ([x.s,[123]]++Sx.record SY 0 (x.names.take m) (x.parts.take m)):=(by rw[<-hwa];exact HO.o.below ((yqZ _ _).alloc (ybZ _) _));have H5:Below B w2 wa:=(by rw[<-hwa];exact(Ha.o).alloc (ymZ HX.o.bb (Ha.o).size) _);have H3:Str wa (.slice (some ⟨wr.heap.size,0,none⟩) 1 1) [[44]] (.slice A5 n5 c5):=(by rw[<-hwa];exact Str.arr (m:=[[44]]) (ydZ wr _) rfl (fun q hq=>(HO.o.lt q hq).2));have Hd:=zh H6;have H7:=zh H5;have Hr:=zh H3;clear H6 H5 H3;go_wp2_with (at_builtin;refine zlZ rfl _ _ rfl rfl rfl Hd.o Hr.o (by simp) (by have:=H1.o;simp only[ycZ,yhZ,ynZ]at *;omega) (ymZ HX.o.bb H7.o.size) ?_;intro rc wc hO5 H4;have hB5:=zyZ H7.o (ymZ HX.o.bb H7.o.size) H4 (fun g hg=>(Hd.o.lt g hg).1);have J1:=zh hO5;have Jc:=zh hB5;clear hO5 hB5 H4);obtain⟨Ac,cc,rfl⟩:=J1.o.slice;clear x0 x1 x2 x3 x4 x5 x6 J0;have hB0:Below B w2 wc.drew:=(Jc.o).drew;have hO0:OwnS wc.drew B (.slice Ac (([x.s,[123]]++Sx.record SY 0 (x.names.take m) (x.parts.take m))++[[44]]).length cc) (([x.s,[123]]++Sx.record SY 0 (x.names.take m) (x.parts.take m))++[[44]]):=J1.o;obtain⟨Fs,⟨F0,F1,F2,F3,F4,F5,F6,F7,F8,F9,F10,F11,F12,F13,F14,F15,-⟩,hstay⟩:=zrZ [IsF (.slice Ac (([x.s,[123]]++Sx.record SY 0 (x.names.take m) (x.parts.take m))++[[44]]).length cc),IsF (.pointer (some ⟨L,5,none⟩)),IsF (.slice (some ⟨g1,off1,none⟩) x.names.length cn),IsF (.int .i64 (m:Int)),IsF (.pointer (some ⟨g1,off1+m,none⟩)),IsF (.string ⟨s.toArray⟩),StrF [s,[58]],AppF 0,IsF (.pointer (some ⟨L,6,none⟩)),IsF (.slice (some ⟨g,off,none⟩) k cp),IsF (.int .i64 (m:Int)),IsF (.pointer (some ⟨g,off+m * 7,none⟩)),IsF (.agg #[.int .i64 p.pos,.int .i64 p.kind,.int .i64 p.n,.string ⟨p.s.toArray⟩,.slice Atp p.t.length ctp,.slice Anp p.names.length cnp,.slice App p.parts.length cpp]),StrF (Sx.expr SY p),AppF 1,AppF 1];obtain⟨Lf,⟨L0,L1,L2,-⟩,hL⟩:=zbdZ ((([x.s,[123]]++Sx.record SY 0 (x.names.take m) (x.parts.take m))++[[44]])) [[s,[58]],(Sx.expr SY p)] (by simp only[tot];(have h1:=H1.o;simp only[ycZ,yhZ,ynZ]at *;omega));refine zbbZ (apps:=[7,14]) hstay hB0 hO0 L0 L2 F15 ?_ ?_;have H2:=Bx.mk (P:= Tryz.prog) (I:=RowI B w2 (.slice Ac (([x.s,[123]]++Sx.record SY 0 (x.names.take m) (x.parts.take m))++[[44]]).length cc) Lf) flX ldA fun _ w _ h=>HX.o.bx w h.1
    ·repeat' first | refine OpsOk.cons ?_ ?_ | fail
     ·exact .m F0 (.z 3 15 [14,7,0])
     ·exact .fl H2 F1 (.n 1)
     ·exact .ld H2 F2 (.f 73 F1) (hc:=by first | rfl | (rw[<-HK.o];rfl))
     ·exact .m F3 (.n 4)
     ·refine OpOk.val rfl rfl F4 RowM.rf fun ρ w r k E hI K hK=>?_;have e74:=E.e 74 2 (by kernel_rfl) F2;have e75:=E.e 75 3 (by kernel_rfl) F3;obtain⟨q0,q1⟩:=Hi.o w (HX.o.wx w hI.1);go_simp;exact hK
     ·refine OpOk.val rfl rfl F5 RowM.rf fun ρ w r k E hI K hK=>?_;have e76:=E.e 76 4 (by kernel_rfl) F4;obtain⟨q0,q1⟩:=Hi.o w (HX.o.wx w hI.1);go_simp;exact hK
     ·exact .o1 HX.o.bb F6 (.f 77 F5)
     ·exact .N0 72 78 HX.o.bb hL F7 L0 L1 F0 F6
     ·exact .fl H2 F8 (.n 1)
     ·exact .ld H2 F9 (.f 80 F8) (hc:=by first | rfl | (rw[<-HK.o];rfl))
     ·exact .m F10 (.n 4)
     ·refine OpOk.val rfl rfl F11 RowM.rf fun ρ w r k E hI K hK=>?_;have e81:=E.e 81 9 (by kernel_rfl) F9;have e82:=E.e 82 10 (by kernel_rfl) F10;obtain⟨hg,c0,c1,c2,c3,c4,c5,c6⟩:=Hj.o w (HX.o.wx w hI.1);go_simp;exact hK
     ·refine OpOk.val rfl rfl F12 RowM.rf fun ρ w r k E hI K hK=>?_;have e83:=E.e 83 11 (by kernel_rfl) F11;obtain⟨hg,c0,c1,c2,c3,c4,c5,c6⟩:=Hj.o w (HX.o.wx w hI.1);go_simp;exact hK
     ·exact .C HX.o.bb F13 Tryz.func34 (.f 84 F12) fun w hb=>Hz.o p Hb.o.1 Hb.o.2.1 Hb.o.2.2 _ w (HX.o.gx w hb).1 (HX.o.gx w hb).2 (IsEx.below (HX.o.wx w hb) _ _ J2.o)
     ·exact .N 79 85 HX.o.bb hL F14 L1 L2 F7 F13 (hm:=Hc.o)
     ·exact .aa F15 F14 86
     ·exact .nil
    ·intro uq wq rq hBz hOz hz;simp only[yyZ,fillAct,Act.put,yoZ,yzZ,yAZ,hz];clear F0 F1 F2 F3 F4 F5 F6 F7 F8 F9 F10 F11 F12 F13 F14 F15 hstay hL L0 L1 L2 hz;obtain⟨A9,c9,rfl⟩:=hOz.slice;have Hv:=zh hOz;have Hn:=zh hBz;clear hOz hBz;go_wp2_with fail;go_roundg (k-(m+1))
     case measure=>have:=HI.o;omega
     case rel=>exact⟨m+1,A9,_,c9,rfl,rfl,by simp,hlt,by rw[Hx.o,if_pos hz];simpa[yiZ]using Hv.o,Hn.o⟩
   ·have Je:¬(0:Int)<(m:Int):=(by omega);go_wp2_with fail;clear x0 x1 x2 x3 x4 x5 x6 J0;have hB0:Below B w2 wr.drew:=(Ha.o).drew;have hO0:OwnS wr.drew B (.slice A5 n5 c5) ([x.s,[123]]++Sx.record SY 0 (x.names.take m) (x.parts.take m)):=HO.o;obtain⟨Fs,⟨F0,F1,F2,F3,F4,F5,F6,F7,F8,F9,F10,F11,F12,F13,F14,F15,-⟩,hstay⟩:=zrZ [IsF (.slice A5 n5 c5),IsF (.pointer (some ⟨L,5,none⟩)),IsF (.slice (some ⟨g1,off1,none⟩) x.names.length cn),IsF (.int .i64 (m:Int)),IsF (.pointer (some ⟨g1,off1+m,none⟩)),IsF (.string ⟨s.toArray⟩),StrF [s,[58]],AppF 0,IsF (.pointer (some ⟨L,6,none⟩)),IsF (.slice (some ⟨g,off,none⟩) k cp),IsF (.int .i64 (m:Int)),IsF (.pointer (some ⟨g,off+m * 7,none⟩)),IsF (.agg #[.int .i64 p.pos,.int .i64 p.kind,.int .i64 p.n,.string ⟨p.s.toArray⟩,.slice Atp p.t.length ctp,.slice Anp p.names.length cnp,.slice App p.parts.length cpp]),StrF (Sx.expr SY p),AppF 1,AppF 1];obtain⟨Lf,⟨L0,L1,L2,-⟩,hL⟩:=zbdZ (([x.s,[123]]++Sx.record SY 0 (x.names.take m) (x.parts.take m))) [[s,[58]],(Sx.expr SY p)] (by simp only[tot];(have h1:=H1.o;simp only[ycZ,yhZ,ynZ]at *;omega));refine zbbZ (apps:=[7,14]) hstay hB0 hO0 L0 L2 F15 ?_ ?_;have H2:=Bx.mk (P:= Tryz.prog) (I:=RowI B w2 (.slice A5 n5 c5) Lf) flX ldA fun _ w _ h=>HX.o.bx w h.1
    ·repeat' first | refine OpsOk.cons ?_ ?_ | fail
     ·exact .m F0 (.z 3 15 [14,7,0])
     ·exact .fl H2 F1 (.n 1)
     ·exact .ld H2 F2 (.f 73 F1) (hc:=by first | rfl | (rw[<-HK.o];rfl))
     ·exact .m F3 (.n 4)
     ·refine OpOk.val rfl rfl F4 RowM.rf fun ρ w r k E hI K hK=>?_;have e74:=E.e 74 2 (by kernel_rfl) F2;have e75:=E.e 75 3 (by kernel_rfl) F3;obtain⟨q0,q1⟩:=Hi.o w (HX.o.wx w hI.1);go_simp;exact hK
     ·refine OpOk.val rfl rfl F5 RowM.rf fun ρ w r k E hI K hK=>?_;have e76:=E.e 76 4 (by kernel_rfl) F4;obtain⟨q0,q1⟩:=Hi.o w (HX.o.wx w hI.1);go_simp;exact hK
     ·exact .o1 HX.o.bb F6 (.f 77 F5)
     ·exact .N0 72 78 HX.o.bb hL F7 L0 L1 F0 F6
     ·exact .fl H2 F8 (.n 1)
     ·exact .ld H2 F9 (.f 80 F8) (hc:=by first | rfl | (rw[<-HK.o];rfl))
     ·exact .m F10 (.n 4)
     ·refine OpOk.val rfl rfl F11 RowM.rf fun ρ w r k E hI K hK=>?_;have e81:=E.e 81 9 (by kernel_rfl) F9;have e82:=E.e 82 10 (by kernel_rfl) F10;obtain⟨hg,c0,c1,c2,c3,c4,c5,c6⟩:=Hj.o w (HX.o.wx w hI.1);go_simp;exact hK
     ·refine OpOk.val rfl rfl F12 RowM.rf fun ρ w r k E hI K hK=>?_;have e83:=E.e 83 11 (by kernel_rfl) F11;obtain⟨hg,c0,c1,c2,c3,c4,c5,c6⟩:=Hj.o w (HX.o.wx w hI.1);go_simp;exact hK
     ·exact .C HX.o.bb F13 Tryz.func34 (.f 84 F12) fun w hb=>Hz.o p Hb.o.1 Hb.o.2.1 Hb.o.2.2 _ w (HX.o.gx w hb).1 (HX.o.gx w hb).2 (IsEx.below (HX.o.wx w hb) _ _ J2.o)
     ·exact .N 79 85 HX.o.bb hL F14 L1 L2 F7 F13 (hm:=Hc.o)
     ·exact .aa F15 F14 86
     ·exact .nil
    ·intro uq wq rq hBz hOz hz;simp only[yyZ,fillAct,Act.put,yoZ,yzZ,yAZ,hz];clear F0 F1 F2 F3 F4 F5 F6 F7 F8 F9 F10 F11 F12 F13 F14 F15 hstay hL L0 L1 L2 hz;obtain⟨A9,c9,rfl⟩:=hOz.slice;have Hv:=zh hOz;have Hn:=zh hBz;clear hOz hBz;go_wp2_with fail;go_roundg (k-(m+1))
     case measure=>have:=HI.o;omega
     case rel=>exact⟨m+1,A9,_,c9,rfl,rfl,by simp,hlt,by rw[Hx.o,if_neg hz];simpa[yiZ]using Hv.o,Hn.o⟩
  ·have J8:¬(m:Int)<(k:Int):=(by omega);rw[yjZ (show x.names.length<=m by have:=HK.o;have:=Hu.o;omega),yjZ (show x.parts.length<=m by have:=HK.o;omega)]at HO
   have H1:=zh (show([x.s,[123]]++Sx.record SY 0 x.names x.parts).length<=50000000 by
    have h1:=Sx.record_len SY 0 x.names x.parts;have h3:=J5.o;have h4:=Hq.o;simp only[ycZ,yhZ,ynZ]
    omega)
   obtain⟨wa,hwa⟩:=zE (wr.alloc (.cells #[.string ⟨#[125]⟩] 9));have H6:OwnS wa B (.slice A5 n5 c5) ([x.s,[123]]++Sx.record SY 0 x.names x.parts):=(by rw[<-hwa];exact HO.o.below ((yqZ _ _).alloc (ybZ _) _));have H5:Below B w2 wa:=(by rw[<-hwa];exact(Ha.o).alloc (ymZ HX.o.bb (Ha.o).size) _);have H3:Str wa (.slice (some ⟨wr.heap.size,0,none⟩) 1 1) [[125]] (.slice A5 n5 c5):=(by rw[<-hwa];exact Str.arr (m:=[[125]]) (ydZ wr _) rfl (fun q hq=>(HO.o.lt q hq).2));have Hg:=zh H6;have H8:=zh H5;have Ht:=zh H3;clear H6 H5 H3;go_wp2_with (at_builtin;refine zlZ rfl _ _ rfl rfl rfl Hg.o Ht.o (by simp) (by have:=H1.o;simp only[ycZ,yhZ,ynZ]at *;omega) (ymZ HX.o.bb H8.o.size) ?_;intro rd wd hO5 H4;have hB5:=zyZ H8.o (ymZ HX.o.bb H8.o.size) H4 (fun g hg=>(Hg.o.lt g hg).1);have Jd:=zh hO5;have Jg:=zh hB5;clear hO5 hB5 H4);go_ret;subst hL;exact⟨_,rfl,by rw[HT.o];exact Jd.o.base_le HX.o.wb,HX.o.wx _ Jg.o⟩
theorem told8 (n:Nat) (hn:n+1<=1000000) (ih:ToldOk n) (x:Sx.Ex) (hsz:Sx.sizeX x<=n+1) (hok:Sx.okX x) (hnum:Sx.numX x) (hkd:x.kind=8) (v:Value) (W:World) (hG:GL W) (hN:NG<=W.heap.size) (ht:IsEx W v x):ToldIs x v W:=by
 unfold ToldIs;obtain⟨hsh,J6⟩:=hok.shape;obtain⟨hxn,Jb⟩:=Sx.numX_parts hnum;have Hp:=Sx.sizeX_parts x;obtain⟨At,ct,An,cn,Ap,cp,rfl,htt,hnn,hp,hn0,hn1⟩:=ht.agg;unfold Sx.shapeX at hsh;simp only[ygZ]at hsh;obtain⟨h1,h2,h3,h4,h5⟩:=hsh;rw[hkd]at h3 h4 h5;have Ja:x.names.length=x.parts.length:=by simp at h5;omega
 have J0:=zh Ja;have Hr:=zh (And.intro J6 Jb);have HP:=zh hp;have Jo:=zh hnn;obtain⟨k,hk⟩:=zE (x.parts.length);have Hy:=zh (show Sx.sizeXs x.parts<=n by omega);have Jm:=Sx.length_sizeXs x.parts;have Jp:(k:Int)<=1000000:=by omega
 have HK:=zh hk;have Hx:x.names.length=k:=by omega
 have H1:=zh (show([[110,101,119]]++[x.s,[123]]).length<=50 by simp)
 have HT:=zh (show Sx.expr SY x=[[110,101,119]]++[x.s,[123]]++Sx.record SY 0 x.names x.parts++[[125]]by
  rw[Sx.expr_eq,hkd];simp only[Int.reduceEq,Int.reduceLE,ycbZ,yXZ,yjbZ,ylbZ,or_true,true_or,reduceIte,Nat.reduceEqDiff,ymbZ,true_and,and_false,false_and]
  try rfl)
 have J8:=zh ih;have J5:=zh (show Sx.sizeX x<=n+1/\n+1<=1000000 from⟨hsz,hn⟩);rw[hkd];obtain⟨L,B,w2,hL,hw2,hB,HX⟩:=boxed hG hN #[.int .i64 x.pos,.int .i64 8,.int .i64 x.n,.string ⟨x.s.toArray⟩,.slice At x.t.length ct,.slice An x.names.length cn,.slice Ap x.parts.length cp];obtain⟨x0,x1,x2,x3,x4,x5,x6⟩:=zbZ HX.o.box;have Hs:=zaZ HX.o.box;clear hG hN  ih hsz hn ht htt hnn hp hn0 hn1 J6 Jb hok hnum h1 h2 h4 h5 hkd Hp h3 Ja Jm hk Hx;go_enter Tryz.func34, Tryz.ntmps34;rw[HK.o]at x6;have Hf:OwnS w2 B (.slice none 0 0) []:=yOZ _ _ _ _;have Hh:=zh Hf;clear Hf;obtain⟨wa,hwa⟩:=zE (w2.alloc (.cells #[.string ⟨#[110,101,119]⟩] 9));have H3:OwnS wa B (.slice none 0 0) ([]):=by rw[<-hwa];exact Hh.o.below ((yqZ _ _).alloc (ybZ _) _)
 have H5:Below B w2 wa:=by rw[<-hwa];exact(HX.o.r2).alloc (ymZ HX.o.bb (HX.o.r2).size) _
 have H4:Str wa (.slice (some ⟨B,0,none⟩) 1 1) [[110,101,119]] (.slice none 0 0):=by rw[<-hwa];rw[<-hB];exact Str.arr (m:=[[110,101,119]]) (ydZ w2 _) rfl (fun q hq=>(Hh.o.lt q hq).2)
 have Hi:=zh H3;have H9:=zh H5;have Ht:=zh H4;clear H3 H5 H4;go_upto_region 21 with(at_builtin;refine zlZ rfl _ _ rfl rfl rfl Hi.o Ht.o (by simp) (by have:=H1.o;simp only[ycZ,yhZ,ynZ]at *;omega) (ymZ HX.o.bb H9.o.size) ?_;intro ra wa hO5 H2;have hB5:=zyZ H9.o (ymZ HX.o.bb H9.o.size) H2 (fun g hg=>(Hi.o.lt g hg).1);have Hu:=zh hO5;have Hk:=zh hB5;clear hO5 hB5 H2 x0 x1 x2 x3 x4 x5 x6 Hs)
 obtain⟨Aa,ca,rfl⟩:=Hu.o.slice;obtain⟨x0,x1,x2,x3,x4,x5,x6⟩:=zbZ (HX.o.bx wa Hk.o);rw[HK.o]at x6;have Hs:=zaZ (HX.o.bx wa Hk.o);obtain⟨wb,hwb⟩:=zE (wa.alloc (.cells #[.string ⟨x.s.toArray⟩,.string ⟨#[123]⟩] 9));have H3:OwnS wb B (.slice Aa ([]++[[110,101,119]]:List Lx.Bytes).length ca) ([]++[[110,101,119]]):=by rw[<-hwb];exact Hu.o.below ((yqZ _ _).alloc (ybZ _) _)
 have H5:Below B w2 wb:=by rw[<-hwb];exact(Hk.o).alloc (ymZ HX.o.bb (Hk.o).size) _
 have H4:Str wb (.slice (some ⟨wa.heap.size,0,none⟩) 2 2) [x.s,[123]] (.slice Aa ([]++[[110,101,119]]:List Lx.Bytes).length ca):=by rw[<-hwb];exact Str.arr (m:=[x.s,[123]]) (ydZ wa _) rfl (fun q hq=>(Hu.o.lt q hq).2)
 have Hj:=zh H3;have Hb:=zh H5;have Hw:=zh H4;clear H3 H5 H4;go_wp2_with (at_builtin;refine zlZ rfl _ _ rfl rfl rfl Hj.o Hw.o (by simp) (by have:=H1.o;simp only[ycZ,yhZ,ynZ]at *;omega) (ymZ HX.o.bb Hb.o.size) ?_;intro rb wb hO5 H2;have hB5:=zyZ Hb.o (ymZ HX.o.bb Hb.o.size) H2 (fun g hg=>(Hj.o.lt g hg).1);have Jc:=zh hO5;have Ji:=zh hB5;clear hO5 hB5 H2 x0 x1 x2 x3 x4 x5 x6 Hs);obtain⟨Ab,cb,rfl⟩:=Jc.o.slice;have Jf:=zh (show OwnS wb B (.slice Ab ([]++[[110,101,119]]++[x.s,[123]]:List Lx.Bytes).length cb) ([[110,101,119]]++[x.s,[123]]++Sx.record SY 0 (x.names.take 0) (x.parts.take 0))by have:=Jc.o;simpa[Sx.record]using this);go_loopg [3,4] k (fun i v3 v4 wr=>∃(m:Nat) (A5:Option Addr) (n5 c5:Nat),i=k-m/\v3=.slice A5 n5 c5/\v4=.int .i64 (m:Nat)/\m<=k/\OwnS wr B (.slice A5 n5 c5) ([[110,101,119]]++[x.s,[123]]++Sx.record SY 0 (x.names.take m) (x.parts.take m))/\Below B w2 wr)
 case atStart=>exact⟨0,Ab,_,cb,rfl,rfl,rfl,yxZ _,Jf.o,Ji.o⟩
 case round=>
  obtain⟨m,A5,n5,c5,hi,rfl,rfl,hm,ho,hb⟩:=hrel;have HI:=zh hi;have HO:=zh ho;have H8:=zh hb;have m0:(0:Int)<=(m:Int):=(by omega);have m1:(m:Int)<=1000000:=(by omega);clear hi ho hb H1;obtain⟨x0,x1,x2,x3,x4,x5,x6⟩:=zbZ (HX.o.bx wr H8.o);rw[HK.o]at x6;have J3:=zaZ (HX.o.bx wr H8.o);by_cases hlt:m<k
  ·have Jd:(m:Int)<(k:Int):=(by omega);have Jq:IntKind.i64.wrap ((m:Int)+1)=(m:Int)+1:=(by rw[yQZ];omega);have Hm:m<x.parts.length:=(by have:=HK.o;omega);have J2:m<x.names.length:=(by have:=J0.o;omega);have Jg:(m:Int)<(x.names.length:Int):=(by omega);have H0:=yfZ Hm;have Ho:=Sx.record_take J0.o Hm;obtain⟨g,off,Atp,ctp,Anp,cnp,App,cpp,rfl,hty,hc5⟩:=HP.o.spot m Hm;obtain⟨g1,off1,rfl,hsp1⟩:=Jo.o.spot m J2;obtain⟨p,hpe⟩:=zE (x.parts[m]'Hm);obtain⟨s,hse⟩:=zE (x.names[m]'J2);rw[hpe]at hty hc5 Ho H0;rw[hse]at hsp1 Ho;have Jh:=Sx.sizeX_mem H0;have Jj:=Sx.sizeXs_take_le x.parts m;have Hc:=zh (show Sx.sizeX p<=n/\Sx.okX p/\Sx.numX p from⟨by have:=Hy.o;omega,Hr.o.1 p H0,Hr.o.2 p H0⟩);have Hd:=zh (Sx.expr_pos (Hr.o.1 p H0))
   have H1:=zh (show([[110,101,119]]++[x.s,[123]]++Sx.record SY 0 (x.names.take m) (x.parts.take m)).length+(Sx.expr SY p).length<=50000000 by
    have h1:=Sx.record_len SY 0 (x.names.take m) (x.parts.take m);have h2:=Sx.expr_len SY p;have h3:=J5.o;have h4:=Hy.o;simp only[ycZ,yhZ,ynZ]
    omega)
   have J4:=zh hty;have Hl:=zh hc5;have J7:=zh Ho;have Hn:=zh hsp1;clear hty hc5 Ho H0 Jh Jj hpe hse hsp1;by_cases hz:0<m
   ·have Je:(0:Int)<(m:Int):=(by omega);obtain⟨wa,hwa⟩:=zE (wr.alloc (.cells #[.string ⟨#[44]⟩] 9));have H3:OwnS wa B (.slice A5 n5 c5) ([[110,101,119]]++[x.s,[123]]++Sx.record SY 0 (x.names.take m) (x.parts.take m)):=(by rw[<-hwa];exact HO.o.below ((yqZ _ _).alloc (ybZ _) _));have H5:Below B w2 wa:=(by rw[<-hwa];exact(H8.o).alloc (ymZ HX.o.bb (H8.o).size) _);have H4:Str wa (.slice (some ⟨wr.heap.size,0,none⟩) 1 1) [[44]] (.slice A5 n5 c5):=(by rw[<-hwa];exact Str.arr (m:=[[44]]) (ydZ wr _) rfl (fun q hq=>(HO.o.lt q hq).2));have Hg:=zh H3;have H7:=zh H5;have Hq:=zh H4;clear H3 H5 H4;go_wp2_with (at_builtin;refine zlZ rfl _ _ rfl rfl rfl Hg.o Hq.o (by simp) (by have:=H1.o;simp only[ycZ,yhZ,ynZ]at *;omega) (ymZ HX.o.bb H7.o.size) ?_;intro rc wc hO5 H2;have hB5:=zyZ H7.o (ymZ HX.o.bb H7.o.size) H2 (fun g hg=>(Hg.o.lt g hg).1);have J9:=zh hO5;have Jk:=zh hB5;clear hO5 hB5 H2);obtain⟨Ac,cc,rfl⟩:=J9.o.slice;clear x0 x1 x2 x3 x4 x5 x6 J3;have hB0:Below B w2 wc.drew:=(Jk.o).drew;have hO0:OwnS wc.drew B (.slice Ac (([[110,101,119]]++[x.s,[123]]++Sx.record SY 0 (x.names.take m) (x.parts.take m))++[[44]]).length cc) (([[110,101,119]]++[x.s,[123]]++Sx.record SY 0 (x.names.take m) (x.parts.take m))++[[44]]):=J9.o;obtain⟨Fs,⟨F0,F1,F2,F3,F4,F5,F6,F7,F8,F9,F10,F11,F12,F13,F14,F15,-⟩,hstay⟩:=zrZ [IsF (.slice Ac (([[110,101,119]]++[x.s,[123]]++Sx.record SY 0 (x.names.take m) (x.parts.take m))++[[44]]).length cc),IsF (.pointer (some ⟨L,5,none⟩)),IsF (.slice (some ⟨g1,off1,none⟩) x.names.length cn),IsF (.int .i64 (m:Int)),IsF (.pointer (some ⟨g1,off1+m,none⟩)),IsF (.string ⟨s.toArray⟩),StrF [s,[58]],AppF 0,IsF (.pointer (some ⟨L,6,none⟩)),IsF (.slice (some ⟨g,off,none⟩) k cp),IsF (.int .i64 (m:Int)),IsF (.pointer (some ⟨g,off+m * 7,none⟩)),IsF (.agg #[.int .i64 p.pos,.int .i64 p.kind,.int .i64 p.n,.string ⟨p.s.toArray⟩,.slice Atp p.t.length ctp,.slice Anp p.names.length cnp,.slice App p.parts.length cpp]),StrF (Sx.expr SY p),AppF 1,AppF 1];obtain⟨Lf,⟨L0,L1,L2,-⟩,hL⟩:=zbdZ ((([[110,101,119]]++[x.s,[123]]++Sx.record SY 0 (x.names.take m) (x.parts.take m))++[[44]])) [[s,[58]],(Sx.expr SY p)] (by simp only[tot];(have h1:=H1.o;simp only[ycZ,yhZ,ynZ]at *;omega));refine zbbZ (apps:=[7,14]) hstay hB0 hO0 L0 L2 F15 ?_ ?_;have H6:=Bx.mk (P:= Tryz.prog) (I:=RowI B w2 (.slice Ac (([[110,101,119]]++[x.s,[123]]++Sx.record SY 0 (x.names.take m) (x.parts.take m))++[[44]]).length cc) Lf) flX ldA fun _ w _ h=>HX.o.bx w h.1
    ·repeat' first | refine OpsOk.cons ?_ ?_ | fail
     ·exact .m F0 (.z 3 15 [14,7,0])
     ·exact .fl H6 F1 (.n 1)
     ·exact .ld H6 F2 (.f 73 F1) (hc:=by first | rfl | (rw[<-HK.o];rfl))
     ·exact .m F3 (.n 4)
     ·refine OpOk.val rfl rfl F4 RowM.rf fun ρ w r k E hI K hK=>?_;have e74:=E.e 74 2 (by kernel_rfl) F2;have e75:=E.e 75 3 (by kernel_rfl) F3;obtain⟨q0,q1⟩:=Hn.o w (HX.o.wx w hI.1);go_simp;exact hK
     ·refine OpOk.val rfl rfl F5 RowM.rf fun ρ w r k E hI K hK=>?_;have e76:=E.e 76 4 (by kernel_rfl) F4;obtain⟨q0,q1⟩:=Hn.o w (HX.o.wx w hI.1);go_simp;exact hK
     ·exact .o1 HX.o.bb F6 (.f 77 F5)
     ·exact .N0 72 78 HX.o.bb hL F7 L0 L1 F0 F6
     ·exact .fl H6 F8 (.n 1)
     ·exact .ld H6 F9 (.f 80 F8) (hc:=by first | rfl | (rw[<-HK.o];rfl))
     ·exact .m F10 (.n 4)
     ·refine OpOk.val rfl rfl F11 RowM.rf fun ρ w r k E hI K hK=>?_;have e81:=E.e 81 9 (by kernel_rfl) F9;have e82:=E.e 82 10 (by kernel_rfl) F10;obtain⟨hg,c0,c1,c2,c3,c4,c5,c6⟩:=Hl.o w (HX.o.wx w hI.1);go_simp;exact hK
     ·refine OpOk.val rfl rfl F12 RowM.rf fun ρ w r k E hI K hK=>?_;have e83:=E.e 83 11 (by kernel_rfl) F11;obtain⟨hg,c0,c1,c2,c3,c4,c5,c6⟩:=Hl.o w (HX.o.wx w hI.1);go_simp;exact hK
     ·exact .C HX.o.bb F13 Tryz.func34 (.f 84 F12) fun w hb=>J8.o p Hc.o.1 Hc.o.2.1 Hc.o.2.2 _ w (HX.o.gx w hb).1 (HX.o.gx w hb).2 (IsEx.below (HX.o.wx w hb) _ _ J4.o)
     ·exact .N 79 85 HX.o.bb hL F14 L1 L2 F7 F13 (hm:=Hd.o)
     ·exact .aa F15 F14 86
     ·exact .nil
    ·intro uq wq rq hBz hOz hz;simp only[yyZ,fillAct,Act.put,yoZ,yzZ,yAZ,hz];clear F0 F1 F2 F3 F4 F5 F6 F7 F8 F9 F10 F11 F12 F13 F14 F15 hstay hL L0 L1 L2 hz;obtain⟨A9,c9,rfl⟩:=hOz.slice;have J1:=zh hOz;have Hv:=zh hBz;clear hOz hBz;go_wp2_with fail;go_roundg (k-(m+1))
     case measure=>have:=HI.o;omega
     case rel=>exact⟨m+1,A9,_,c9,rfl,rfl,by simp,hlt,by rw[J7.o,if_pos hz];simpa[yiZ]using J1.o,Hv.o⟩
   ·have Je:¬(0:Int)<(m:Int):=(by omega);go_wp2_with fail;clear x0 x1 x2 x3 x4 x5 x6 J3;have hB0:Below B w2 wr.drew:=(H8.o).drew;have hO0:OwnS wr.drew B (.slice A5 n5 c5) ([[110,101,119]]++[x.s,[123]]++Sx.record SY 0 (x.names.take m) (x.parts.take m)):=HO.o;obtain⟨Fs,⟨F0,F1,F2,F3,F4,F5,F6,F7,F8,F9,F10,F11,F12,F13,F14,F15,-⟩,hstay⟩:=zrZ [IsF (.slice A5 n5 c5),IsF (.pointer (some ⟨L,5,none⟩)),IsF (.slice (some ⟨g1,off1,none⟩) x.names.length cn),IsF (.int .i64 (m:Int)),IsF (.pointer (some ⟨g1,off1+m,none⟩)),IsF (.string ⟨s.toArray⟩),StrF [s,[58]],AppF 0,IsF (.pointer (some ⟨L,6,none⟩)),IsF (.slice (some ⟨g,off,none⟩) k cp),IsF (.int .i64 (m:Int)),IsF (.pointer (some ⟨g,off+m * 7,none⟩)),IsF (.agg #[.int .i64 p.pos,.int .i64 p.kind,.int .i64 p.n,.string ⟨p.s.toArray⟩,.slice Atp p.t.length ctp,.slice Anp p.names.length cnp,.slice App p.parts.length cpp]),StrF (Sx.expr SY p),AppF 1,AppF 1];obtain⟨Lf,⟨L0,L1,L2,-⟩,hL⟩:=zbdZ (([[110,101,119]]++[x.s,[123]]++Sx.record SY 0 (x.names.take m) (x.parts.take m))) [[s,[58]],(Sx.expr SY p)] (by simp only[tot];(have h1:=H1.o;simp only[ycZ,yhZ,ynZ]at *;omega));refine zbbZ (apps:=[7,14]) hstay hB0 hO0 L0 L2 F15 ?_ ?_;have H6:=Bx.mk (P:= Tryz.prog) (I:=RowI B w2 (.slice A5 n5 c5) Lf) flX ldA fun _ w _ h=>HX.o.bx w h.1
    ·repeat' first | refine OpsOk.cons ?_ ?_ | fail
     ·exact .m F0 (.z 3 15 [14,7,0])
     ·exact .fl H6 F1 (.n 1)
     ·exact .ld H6 F2 (.f 73 F1) (hc:=by first | rfl | (rw[<-HK.o];rfl))
     ·exact .m F3 (.n 4)
     ·refine OpOk.val rfl rfl F4 RowM.rf fun ρ w r k E hI K hK=>?_;have e74:=E.e 74 2 (by kernel_rfl) F2;have e75:=E.e 75 3 (by kernel_rfl) F3;obtain⟨q0,q1⟩:=Hn.o w (HX.o.wx w hI.1);go_simp;exact hK
     ·refine OpOk.val rfl rfl F5 RowM.rf fun ρ w r k E hI K hK=>?_;have e76:=E.e 76 4 (by kernel_rfl) F4;obtain⟨q0,q1⟩:=Hn.o w (HX.o.wx w hI.1);go_simp;exact hK
     ·exact .o1 HX.o.bb F6 (.f 77 F5)
     ·exact .N0 72 78 HX.o.bb hL F7 L0 L1 F0 F6
     ·exact .fl H6 F8 (.n 1)
     ·exact .ld H6 F9 (.f 80 F8) (hc:=by first | rfl | (rw[<-HK.o];rfl))
     ·exact .m F10 (.n 4)
     ·refine OpOk.val rfl rfl F11 RowM.rf fun ρ w r k E hI K hK=>?_;have e81:=E.e 81 9 (by kernel_rfl) F9;have e82:=E.e 82 10 (by kernel_rfl) F10;obtain⟨hg,c0,c1,c2,c3,c4,c5,c6⟩:=Hl.o w (HX.o.wx w hI.1);go_simp;exact hK
     ·refine OpOk.val rfl rfl F12 RowM.rf fun ρ w r k E hI K hK=>?_;have e83:=E.e 83 11 (by kernel_rfl) F11;obtain⟨hg,c0,c1,c2,c3,c4,c5,c6⟩:=Hl.o w (HX.o.wx w hI.1);go_simp;exact hK
     ·exact .C HX.o.bb F13 Tryz.func34 (.f 84 F12) fun w hb=>J8.o p Hc.o.1 Hc.o.2.1 Hc.o.2.2 _ w (HX.o.gx w hb).1 (HX.o.gx w hb).2 (IsEx.below (HX.o.wx w hb) _ _ J4.o)
     ·exact .N 79 85 HX.o.bb hL F14 L1 L2 F7 F13 (hm:=Hd.o)
     ·exact .aa F15 F14 86
     ·exact .nil
    ·intro uq wq rq hBz hOz hz;simp only[yyZ,fillAct,Act.put,yoZ,yzZ,yAZ,hz];clear F0 F1 F2 F3 F4 F5 F6 F7 F8 F9 F10 F11 F12 F13 F14 F15 hstay hL L0 L1 L2 hz;obtain⟨A9,c9,rfl⟩:=hOz.slice;have J1:=zh hOz;have Hv:=zh hBz;clear hOz hBz;go_wp2_with fail;go_roundg (k-(m+1))
     case measure=>have:=HI.o;omega
     case rel=>exact⟨m+1,A9,_,c9,rfl,rfl,by simp,hlt,by rw[J7.o,if_neg hz];simpa[yiZ]using J1.o,Hv.o⟩
  ·have Jd:¬(m:Int)<(k:Int):=(by omega);rw[yjZ (show x.names.length<=m by have:=HK.o;have:=J0.o;omega),yjZ (show x.parts.length<=m by have:=HK.o;omega)]at HO
   have H1:=zh (show([[110,101,119]]++[x.s,[123]]++Sx.record SY 0 x.names x.parts).length<=50000000 by
    have h1:=Sx.record_len SY 0 x.names x.parts;have h3:=J5.o;have h4:=Hy.o;simp only[ycZ,yhZ,ynZ]
    omega)
   obtain⟨wa,hwa⟩:=zE (wr.alloc (.cells #[.string ⟨#[125]⟩] 9));have H3:OwnS wa B (.slice A5 n5 c5) ([[110,101,119]]++[x.s,[123]]++Sx.record SY 0 x.names x.parts):=(by rw[<-hwa];exact HO.o.below ((yqZ _ _).alloc (ybZ _) _));have H5:Below B w2 wa:=(by rw[<-hwa];exact(H8.o).alloc (ymZ HX.o.bb (H8.o).size) _);have H4:Str wa (.slice (some ⟨wr.heap.size,0,none⟩) 1 1) [[125]] (.slice A5 n5 c5):=(by rw[<-hwa];exact Str.arr (m:=[[125]]) (ydZ wr _) rfl (fun q hq=>(HO.o.lt q hq).2));have He:=zh H3;have Ha:=zh H5;have Hz:=zh H4;clear H3 H5 H4;go_wp2_with (at_builtin;refine zlZ rfl _ _ rfl rfl rfl He.o Hz.o (by simp) (by have:=H1.o;simp only[ycZ,yhZ,ynZ]at *;omega) (ymZ HX.o.bb Ha.o.size) ?_;intro rd wd hO5 H2;have hB5:=zyZ Ha.o (ymZ HX.o.bb Ha.o.size) H2 (fun g hg=>(He.o.lt g hg).1);have Jl:=zh hO5;have Jn:=zh hB5;clear hO5 hB5 H2);go_ret;subst hL;exact⟨_,rfl,by rw[HT.o];exact Jl.o.base_le HX.o.wb,HX.o.wx _ Jn.o⟩
theorem zwbZ:∀n:Nat,n<=1000000->ToldOk n:=by
 intro n
 induction n with
 | zero=>intro _ x h;have:=Sx.sizeX_pos x;omega
 | succ n ih=>
  intro hn x H2 H1 H0 v W hG hN ht;have ih:=ih (by omega);obtain⟨h1,h2⟩:=H1.kind;have hk:x.kind=1\/x.kind=2\/x.kind=3\/x.kind=4\/x.kind=5\/x.kind=6\/x.kind=7\/x.kind=8\/x.kind=9\/x.kind=10\/x.kind=11\/x.kind=12\/x.kind=13\/x.kind=14\/x.kind=15\/x.kind=16\/x.kind=17\/x.kind=18\/x.kind=19\/x.kind=20\/x.kind=21:=(by omega);rcases hk with hk | hk | hk | hk | hk | hk | hk | hk | hk | hk | hk | hk | hk | hk | hk | hk | hk | hk | hk | hk | hk
  ·exact told1 n hn ih x H2 H1 H0 hk v W hG hN ht
  ·exact told2 n hn ih x H2 H1 H0 hk v W hG hN ht
  ·by_cases hx:x.n=1
   ·exact zxtZ n hn ih x H2 H1 H0 hk hx v W hG hN ht
   ·exact zxuZ n hn ih x H2 H1 H0 hk hx v W hG hN ht
  ·exact told4 n hn ih x H2 H1 H0 hk v W hG hN ht
  ·exact told5 n hn ih x H2 H1 H0 hk v W hG hN ht
  ·exact told6 n hn ih x H2 H1 H0 hk v W hG hN ht
  ·exact told7 n hn ih x H2 H1 H0 hk v W hG hN ht
  ·exact told8 n hn ih x H2 H1 H0 hk v W hG hN ht
  ·exact told9 n hn ih x H2 H1 H0 hk v W hG hN ht
  ·exact zxvZ n hn ih x H2 H1 H0 hk v W hG hN ht
  ·exact zxzZ n hn ih x H2 H1 H0 hk v W hG hN ht
  ·exact zxwZ n hn ih x H2 H1 H0 hk v W hG hN ht
  ·exact zxxZ n hn ih x H2 H1 H0 hk v W hG hN ht
  ·exact zxyZ n hn ih x H2 H1 H0 hk v W hG hN ht
  ·exact zdyZ n hn ih x H2 H1 H0 15 (by omega) (by omega) 5 rfl (by omega) (by omega) (by omega) hk v W hG hN ht
  ·exact zdyZ n hn ih x H2 H1 H0 16 (by omega) (by omega) 4 rfl (by omega) (by omega) (by omega) hk v W hG hN ht
  ·exact zdyZ n hn ih x H2 H1 H0 17 (by omega) (by omega) 4 rfl (by omega) (by omega) (by omega) hk v W hG hN ht
  ·exact zmbZ n hn ih x H2 H1 H0 18 (by omega) (by omega) rfl hk v W hG hN ht
  ·exact zmbZ n hn ih x H2 H1 H0 19 (by omega) (by omega) rfl hk v W hG hN ht
  ·exact zdyZ n hn ih x H2 H1 H0 20 (by omega) (by omega) 2 rfl (by omega) (by omega) (by omega) hk v W hG hN ht
  ·exact zdyZ n hn ih x H2 H1 H0 21 (by omega) (by omega) 1 rfl (by omega) (by omega) (by omega) hk v W hG hN ht
end Go.Proofs.YtdncljdfmdgdaaaGreatDoor
