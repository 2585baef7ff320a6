/-
  The walk of coilref2's at and args.
-/
import Derived.Test.YtdncljdfmdgdaaaGreatDoorM27
set_option linter.unusedSimpArgs false
set_option linter.unusedVariables false
set_option maxRecDepth 100000
set_option maxHeartbeats 16000000
namespace Go.Proofs.YtdncljdfmdgdaaaGreatDoor
open Go.RowKit Go.Shelf
attribute [local go_sem] opWp zoZ zvZ zpZ
def ToldIs (x:Sx.Ex) (v:Value) (W:World):Prop:=Calls Tryz.prog 34 #[v] W fun e W'=>∃u,e=.returned u/\OwnS W' W.heap.size u (Sx.expr SY x)/\Below W.heap.size W W'
def ToldOk (n:Nat):Prop:=∀(x:Sx.Ex),Sx.sizeX x<=n->Sx.okX x->Sx.numX x->∀(v:Value) (W:World),GL W->NG<=W.heap.size->IsEx W v x->ToldIs x v W
theorem Sx.sizeXs_take_le (l:List Sx.Ex) (m:Nat):Sx.sizeXs (l.take m)<=Sx.sizeXs l:=by
 have h:=Sx.sizeXs_append (l.take m) (l.drop m);rw[ydbZ]at h;omega
theorem zbiZ {α:Type} {l m:List α} (h:0<m.length):0<(l++m).length:=by rw[ycZ];omega
theorem zhvZ {α:Type} {l m:List α} (h:0<l.length):0<(l++m).length:=by rw[ycZ];omega
theorem zbjZ {α:Type} {c:Prop} [Decidable c] {l m:List α} (h:c->0<l.length) (k:¬c->0<m.length):0<(if c then l else m).length:=by
 split
 ·exact h ‹_›
 ·exact k ‹_›
theorem Sx.expr_pos {x:Sx.Ex} (h:Sx.okX x):0<(Sx.expr SY x).length:=by
 rw[Sx.expr_eq];refine zbjZ (fun _=>yVZ _) fun _=>zbjZ (fun _=>yVZ _) fun _=>zbjZ (fun _=>yVZ _) fun _=>zbjZ (fun _=>yVZ _) fun _=>zbjZ (fun _=>yVZ _) fun _=>zbjZ (fun _=>yVZ _) fun _=>
  zbjZ (fun _=>zbiZ (yVZ _)) fun _=>zbjZ (fun _=>zbiZ (yVZ _)) fun _=>zbjZ (fun _=>zhvZ (zbiZ (yVZ _))) fun _=>zbjZ (fun h11=>zbiZ ?_) fun _=>zbjZ (fun _=>zhvZ (zbiZ (yVZ _))) fun _=>zbjZ (fun _=>yVZ _) fun _=>zhvZ (zbiZ (yVZ _))
 have hs:=h.shape.1;unfold Sx.shapeX at hs;simp only[ygZ]at hs;have h5:=hs.2.2.2.2;rw[h11]at h5;simp at h5;have hl:0<x.parts.length:=by omega
 rw[Sx.args_tail hl];unfold Sx.listed;exact zbiZ (yVZ _)
theorem Sx.part_pos (lv:Nat) {x:Sx.Ex} (h:Sx.okX x):0<(Sx.part lv x).length:=by
 unfold Sx.part Sx.within;exact zbjZ (fun _=>zbiZ (yVZ _)) fun _=>Sx.expr_pos h
theorem Sx.part_len (lv:Nat) (x:Sx.Ex):(Sx.part lv x).length<=8 * Sx.sizeX x:=by
 have:=Sx.expr_len SY x;unfold Sx.part Sx.within;split <;> simp <;> omega
theorem zciZ (n:Nat) (hn:n<=1000000) (ih:ToldOk n) (x:Sx.Ex) (hsz:Sx.sizeX x<=n) (hok:Sx.okX x) (hnum:Sx.numX x) (lv:Nat) (hlv:lv<=8) (v:Value) (W:World) (hG:GL W) (hN:NG<=W.heap.size) (ht:IsEx W v x) :
  Calls Tryz.prog 78 #[v,.int .i64 (lv:Nat)] W fun e W'=>∃u,e=.returned u/\OwnS W' W.heap.size u (Sx.part lv x)/\Below W.heap.size W W':=by
 obtain⟨At,ct,An,cn,Ap,cp,rfl,htt,hnn,hp,hn0,hn1⟩:=ht.agg;have He:=hok.kind;have Ha:=Sx.expr_len SY x;have H2:=zh (show(Sx.expr SY x).length<=8000000 by omega);have Hi:(0:Int)<=(lv:Int)/\(lv:Int)<=8:=by omega
 have Hh:=zh (fun X (h1:GL X) (h2:NG<=X.heap.size) (h3:Below W.heap.size W X)=>ih x hsz hok hnum _ X h1 h2 (IsEx.below h3 _ _ ht));have Hc:=zh He;have H8:=zh (Sx.expr_pos hok);clear htt hnn hp hn0 hn1 ht ih hsz hok hnum Ha;obtain⟨L,B,w2,hL,hw2,hB,HX⟩:=boxed hG hN #[.int .i64 x.pos,.int .i64 x.kind,.int .i64 x.n,.string ⟨x.s.toArray⟩,.slice At x.t.length ct,.slice An x.names.length cn,.slice Ap x.parts.length cp];obtain⟨x0,x1,x2,x3,x4,x5,x6⟩:=zbZ HX.o.box;have Hd:=zaZ HX.o.box;clear hG hN;go_enter Tryz.func78, Tryz.ntmps78;go_wp2_with (go_at_call 34;refine(Hh.o w2 (HX.o.gx w2 HX.o.r2).1 (HX.o.gx w2 HX.o.r2).2 (HX.o.wx w2 HX.o.r2)).mono ?_;rintro e w3 ⟨u3,rfl,H6,H7⟩;obtain⟨A3,c3,rfl⟩:=H6.slice;rw[hB]at H6 H7;have H9:=zh H6;have H5:=zh H7;clear H6 H7 x0 x1 x2 x3 x4 x5 x6 Hd;obtain⟨x0,x1,x2,x3,x4,x5,x6⟩:=zbZ (HX.o.bx w3 H5.o);have Hd:=zaZ (HX.o.bx w3 H5.o));refine(zgoZ x.kind w3 Hc.o.1 Hc.o.2).mono ?_;rintro e w4 ⟨rfl,rfl⟩;obtain⟨lx,hlx⟩:=zE (Sx.level x.kind);rw[hlx];by_cases hlt:lx<lv
 ·have Hj:(lx:Int)<(lv:Int):=(by omega);have H1:=zh (show [[40]]++Sx.expr SY x++[[41]]=Sx.part lv x by unfold Sx.part;rw[hlx,if_pos hlt];rfl);have H3:=zh H9.o.row;obtain⟨B3,hB3⟩:=zE (w3.heap.size);have Hb:=zh hB3;have H0:=zh (show B3<=w3.heap.size by rw[hB3];exact ybZ _);have H4:=zh (show B<=B3 by rw[<-hB3];exact ymZ HX.o.bb H5.o.size);obtain⟨tl,htl⟩:=zE (Sx.expr SY x);rw[htl]at H3 H2 H1 H9 ⊢;have Hf:=zh (show 0<tl.length by rw[<-htl];exact H8.o);clear hlx htl;go_upto_region 3 with fail
  have hB0:Below B3 w3 w3:=yqZ _ _;have hO0:OwnS w3 B3 (.slice none 0 0) []:=yOZ _ _ _ _;obtain⟨Fs,⟨F0,F1,F2,F3,F4,F5,-⟩,hstay⟩:=zrZ [AppF 0,StrF tl,AppF 1,StrF [[41]],AppF 2,AppF 2];obtain⟨Lf,⟨L0,L1,L2,L3,-⟩,hL⟩:=zbkZ ([[40]]) [tl,[[41]]] (by simp only[tot];(have h1:=H2.o;simp only[ycZ,yhZ,ynZ]at *;omega));refine zbeZ (apps:=[0,2,4]) hstay hB0 hO0 L0 L3 F5 ?_ ?_
  ·repeat' first | refine OpsOk.cons ?_ ?_ | fail
   ·exact .h0 H0.o F0 L1
   ·exact .rv Hb.o F1 H3.o (.n 5)
   ·exact .N 13 14 H0.o hL F2 L1 L2 F0 F1 (hm:=Hf.o)
   ·exact .o0 H0.o F3
   ·exact .N 15 16 H0.o hL F4 L2 L3 F2 F3
   ·exact .aa F5 F4 17
   ·exact .nil
  ·intro uq wq rq hBz hOz hz;simp only[yyZ,fillAct,Act.put,yoZ,yzZ,yAZ,hz];clear F0 F1 F2 F3 F4 F5 hstay hL L0 L1 L2 L3 hz;have Hk:=zh hOz;have Hg:=zh hBz;clear hOz hBz;go_wp2_with fail;go_ret;exact⟨_,rfl,by rw[<-H1.o];exact Hk.o.base_le (ymZ HX.o.wb H4.o),HX.o.wx _ (H5.o.trans (Hg.o.mono H4.o))⟩
 ·have Hj:¬(lx:Int)<(lv:Int):=(by omega);have H1:=zh (show Sx.expr SY x=Sx.part lv x by unfold Sx.part;rw[hlx,if_neg hlt]);go_wp2_with fail;go_ret;exact⟨_,rfl,by rw[<-H1.o];exact H9.o.base_le HX.o.wb,HX.o.wx _ H5.o⟩
theorem zhwZ (n:Nat) (hn:n<=1000000) (ih:ToldOk n) (xs:List Sx.Ex) (hsz:Sx.sizeXs xs<=n) (Ht:∀p∈xs,Sx.okX p) (He:∀p∈xs,Sx.numX p) (v:Value) (W:World) (hG:GL W) (hN:NG<=W.heap.size) (hv:ExRow W v xs) :
  Calls Tryz.prog 79 #[v] W fun e W'=>∃u,e=.returned u/\OwnS W' W.heap.size u (Sx.listed xs)/\Below W.heap.size W W':=by
 obtain⟨Ap,cp,rfl,-,-⟩:=id hv;obtain⟨k,hk⟩:=zE (xs.length);rw[hk]at hv ⊢;have J3:=Sx.length_sizeXs xs;have k0:(0:Int)<=(k:Int):=by omega
 have k1:(k:Int)<=1000000:=by omega
 obtain⟨B,hB⟩:=zE (W.heap.size);obtain⟨W1,hW1⟩:=zE (W.alloc (.cells #[.string ⟨#[40]⟩] 9));have Hu:Below B W W1:=by rw[<-hW1,<-hB];exact(yqZ _ _).alloc (ybZ _) _
 have Hw:OwnS W1 B (.slice (some ⟨B,0,none⟩) 1 1) [[40]]:=by rw[<-hW1,<-hB];exact OwnS.one (ydZ W _) (ybZ _)
 have Hv:=zh ih;have Hk:=zh (And.intro Ht He);have HP:=zh hv;have HK:=zh hk;have Hn:=zh (show Sx.sizeXs xs<=n/\n<=1000000 from⟨hsz,hn⟩);have Hj:=zh (fun X (h:Below B W X)=>(show GL X/\NG<=X.heap.size by rw[<-hB]at h;exact⟨hG.below h,ymZ hN h.size⟩));have H7:=zh (fun X (h:Below B W X)=>(show Below W.heap.size W X by rw[hB];exact h));have H2:=zh (show B<=W.heap.size by rw[hB];exact ybZ _);have Hz:=zh Hu;have J1:=zh Hw;clear ih Ht He hv hk hsz hn Hu Hw J3 hG hN;go_enter Tryz.func79, Tryz.ntmps79;go_wp2_with fail;go_loopg [3,4] k (fun i v3 v4 wr=>∃(m:Nat) (A5:Option Addr) (n5 c5:Nat),i=k-m/\v3=.slice A5 n5 c5/\v4=.int .i64 (m:Nat)/\m<=k/\OwnS wr B (.slice A5 n5 c5) ([[40]]++Sx.list SY 0 (xs.take m))/\Below B W wr)
 case atStart=>exact⟨0,some ⟨B,0,none⟩,1,1,rfl,rfl,rfl,yxZ _,J1.o,Hz.o⟩
 case round=>
  obtain⟨m,A5,n5,c5,hi,rfl,rfl,hm,ho,hb⟩:=hrel;have HI:=zh hi;have HO:=zh ho;have Ha:=zh hb;have m0:(0:Int)<=(m:Int):=(by omega);have m1:(m:Int)<=1000000:=(by omega);clear hi ho hb;by_cases hlt:m<k
  ·have Hx:(m:Int)<(k:Int):=(by omega);have J4:IntKind.i64.wrap ((m:Int)+1)=(m:Int)+1:=(by rw[yQZ];omega);have Hi:m<xs.length:=(by have:=HK.o;omega);have H0:=yfZ Hi;have Hp:=Sx.list_take Hi;obtain⟨g,off,Atp,ctp,Anp,cnp,App,cpp,rfl,hty,hc5⟩:=HP.o.spot m Hi;obtain⟨p,hpe⟩:=zE (xs[m]'Hi);rw[hpe]at hty hc5 Hp H0;have Hy:=Sx.sizeX_mem H0;have J0:=Sx.sizeXs_take_le xs m;have H6:=zh (show Sx.sizeX p<=n/\Sx.okX p/\Sx.numX p from⟨by have:=Hn.o;omega,Hk.o.1 p H0,Hk.o.2 p H0⟩);have H8:=zh (Sx.expr_pos (Hk.o.1 p H0))
   have H1:=zh (show([[40]]++Sx.list SY 0 (xs.take m)).length+(Sx.expr SY p).length<=50000000 by
    have h1:=Sx.list_len SY 0 (xs.take m);have h2:=Sx.expr_len SY p;have h3:=Hn.o;simp only[ycZ,yhZ,ynZ]
    omega)
   have Hr:=zh hty;have Hh:=zh hc5;have Hs:=zh Hp;clear hty hc5 Hp H0 Hy J0 hpe;by_cases hz:0<m
   ·have J2:(0:Int)<(m:Int):=(by omega);obtain⟨wa,hwa⟩:=zE (wr.alloc (.cells #[.string ⟨#[44]⟩] 9));have Hc:OwnS wa B (.slice A5 n5 c5) ([[40]]++Sx.list SY 0 (xs.take m)):=(by rw[<-hwa];exact HO.o.below ((yqZ _ _).alloc (ybZ _) _));have Hf:Below B W wa:=(by rw[<-hwa];exact Ha.o.alloc (ymZ H2.o Ha.o.size) _);have H9:Str wa (.slice (some ⟨wr.heap.size,0,none⟩) 1 1) [[44]] (.slice A5 n5 c5):=(by rw[<-hwa];exact Str.one (ydZ wr _) (fun q hq=>(HO.o.lt q hq).2));have Hd:=zh Hc;have H4:=zh Hf;have Ho:=zh H9;clear Hc Hf H9;go_upto_region 7 with(at_builtin;refine zlZ rfl _ _ rfl rfl rfl Hd.o Ho.o (by decide) (by have:=H1.o;simp only[ycZ,yhZ,ynZ]at *;omega) (ymZ H2.o H4.o.size) ?_;intro r5 w5 hO5 Hb;have hB5:=zyZ H4.o (ymZ H2.o H4.o.size) Hb (fun g hg=>(Hd.o.lt g hg).1);have Hg:=zh hO5;have Hl:=zh hB5;clear hO5 hB5 Hb)
    obtain⟨A6,c6,rfl⟩:=Hg.o.slice;have hB0:Below B W w5:=Hl.o;have hO0:OwnS w5 B (.slice A6 (([[40]]++Sx.list SY 0 (xs.take m))++[[44]]).length c6) (([[40]]++Sx.list SY 0 (xs.take m))++[[44]]):=Hg.o;obtain⟨Fs,⟨F0,F1,F2,F3,F4,F5,F6,F7,-⟩,hstay⟩:=zrZ [IsF (.slice A6 (([[40]]++Sx.list SY 0 (xs.take m))++[[44]]).length c6),IsF (.slice (some ⟨g,off,none⟩) k cp),IsF (.int .i64 (m:Int)),IsF (.pointer (some ⟨g,off+m * 7,none⟩)),IsF (.agg #[.int .i64 p.pos,.int .i64 p.kind,.int .i64 p.n,.string ⟨p.s.toArray⟩,.slice Atp p.t.length ctp,.slice Anp p.names.length cnp,.slice App p.parts.length cpp]),StrF (Sx.expr SY p),AppF 0,AppF 0];obtain⟨Lf,⟨L0,L1,-⟩,hL⟩:=zbdZ ((([[40]]++Sx.list SY 0 (xs.take m))++[[44]])) [(Sx.expr SY p)] (by simp only[tot];(have h1:=H1.o;simp only[ycZ,yhZ,ynZ]at *;omega));refine zbeZ (apps:=[6]) hstay hB0 hO0 L0 L1 F7 ?_ ?_
    ·repeat' first | refine OpsOk.cons ?_ ?_ | fail
     ·exact .m F0 (.z 3 7 [6,0])
     ·exact .m F1 (.n 0)
     ·exact .m F2 (.n 4)
     ·refine OpOk.val rfl rfl F3 RowM.rf fun ρ w r k E hI K hK=>?_;have e18:=E.e 18 1 (by kernel_rfl) F1;have e19:=E.e 19 2 (by kernel_rfl) F2;have H5:=Hh.o w (H7.o w hI.1);obtain⟨hg,c0,c1,c2,c3,c4,c5,c6⟩:=H5;go_simp;exact hK
     ·refine OpOk.val rfl rfl F4 RowM.rf fun ρ w r k E hI K hK=>?_;have e20:=E.e 20 3 (by kernel_rfl) F3;have H5:=Hh.o w (H7.o w hI.1);obtain⟨hg,c0,c1,c2,c3,c4,c5,c6⟩:=H5;go_simp;exact hK
     ·exact .C H2.o F5 Tryz.func34 (.f 21 F4) fun w hb=>Hv.o p H6.o.1 H6.o.2.1 H6.o.2.2 _ w (Hj.o w hb).1 (Hj.o w hb).2 (IsEx.below (H7.o w hb) _ _ Hr.o)
     ·exact .N0 17 22 H2.o hL F6 L0 L1 F0 F5 (hm:=H8.o)
     ·exact .aa F7 F6 23
     ·exact .nil
    ·intro uq wq rq hBz hOz hz;simp only[yyZ,fillAct,Act.put,yoZ,yzZ,yAZ,hz];clear F0 F1 F2 F3 F4 F5 F6 F7 hstay hL L0 L1 hz;obtain⟨A9,c9,rfl⟩:=hOz.slice;have Hq:=zh hOz;have Hm:=zh hBz;clear hOz hBz;go_wp2_with fail;go_roundg (k-(m+1))
     case measure=>have:=HI.o;omega
     case rel=>exact⟨m+1,A9,_,c9,rfl,rfl,by simp,hlt,by rw[Hs.o,if_pos hz];simpa[yiZ]using Hq.o,Hm.o⟩
   ·have J2:¬(0:Int)<(m:Int):=(by omega);go_upto_region 7 with fail
    have hB0:Below B W wr:=Ha.o;have hO0:OwnS wr B (.slice A5 n5 c5) ([[40]]++Sx.list SY 0 (xs.take m)):=HO.o;obtain⟨Fs,⟨F0,F1,F2,F3,F4,F5,F6,F7,-⟩,hstay⟩:=zrZ [IsF (.slice A5 n5 c5),IsF (.slice (some ⟨g,off,none⟩) k cp),IsF (.int .i64 (m:Int)),IsF (.pointer (some ⟨g,off+m * 7,none⟩)),IsF (.agg #[.int .i64 p.pos,.int .i64 p.kind,.int .i64 p.n,.string ⟨p.s.toArray⟩,.slice Atp p.t.length ctp,.slice Anp p.names.length cnp,.slice App p.parts.length cpp]),StrF (Sx.expr SY p),AppF 0,AppF 0];obtain⟨Lf,⟨L0,L1,-⟩,hL⟩:=zbdZ (([[40]]++Sx.list SY 0 (xs.take m))) [(Sx.expr SY p)] (by simp only[tot];(have h1:=H1.o;simp only[ycZ,yhZ,ynZ]at *;omega));refine zbeZ (apps:=[6]) hstay hB0 hO0 L0 L1 F7 ?_ ?_
    ·repeat' first | refine OpsOk.cons ?_ ?_ | fail
     ·exact .m F0 (.z 3 7 [6,0])
     ·exact .m F1 (.n 0)
     ·exact .m F2 (.n 4)
     ·refine OpOk.val rfl rfl F3 RowM.rf fun ρ w r k E hI K hK=>?_;have e18:=E.e 18 1 (by kernel_rfl) F1;have e19:=E.e 19 2 (by kernel_rfl) F2;have H5:=Hh.o w (H7.o w hI.1);obtain⟨hg,c0,c1,c2,c3,c4,c5,c6⟩:=H5;go_simp;exact hK
     ·refine OpOk.val rfl rfl F4 RowM.rf fun ρ w r k E hI K hK=>?_;have e20:=E.e 20 3 (by kernel_rfl) F3;have H5:=Hh.o w (H7.o w hI.1);obtain⟨hg,c0,c1,c2,c3,c4,c5,c6⟩:=H5;go_simp;exact hK
     ·exact .C H2.o F5 Tryz.func34 (.f 21 F4) fun w hb=>Hv.o p H6.o.1 H6.o.2.1 H6.o.2.2 _ w (Hj.o w hb).1 (Hj.o w hb).2 (IsEx.below (H7.o w hb) _ _ Hr.o)
     ·exact .N0 17 22 H2.o hL F6 L0 L1 F0 F5 (hm:=H8.o)
     ·exact .aa F7 F6 23
     ·exact .nil
    ·intro uq wq rq hBz hOz hz;simp only[yyZ,fillAct,Act.put,yoZ,yzZ,yAZ,hz];clear F0 F1 F2 F3 F4 F5 F6 F7 hstay hL L0 L1 hz;obtain⟨A9,c9,rfl⟩:=hOz.slice;have Hq:=zh hOz;have Hm:=zh hBz;clear hOz hBz;go_wp2_with fail;go_roundg (k-(m+1))
     case measure=>have:=HI.o;omega
     case rel=>exact⟨m+1,A9,_,c9,rfl,rfl,by simp,hlt,by rw[Hs.o,if_neg hz];simpa[yiZ]using Hq.o,Hm.o⟩
  ·have Hx:¬(m:Int)<(k:Int):=(by omega);have H3:xs.take m=xs:=yjZ (by have:=HK.o;omega);rw[H3]at HO
   have H1:=zh (show([[40]]++Sx.list SY 0 xs).length<=50000000 by
    have h1:=Sx.list_len SY 0 xs;have h3:=Hn.o;simp only[ycZ,yhZ,ynZ]
    omega)
   clear H3;obtain⟨wa,hwa⟩:=zE (wr.alloc (.cells #[.string ⟨#[41]⟩] 9));have Hc:OwnS wa B (.slice A5 n5 c5) ([[40]]++Sx.list SY 0 xs):=(by rw[<-hwa];exact HO.o.below ((yqZ _ _).alloc (ybZ _) _));have Hf:Below B W wa:=(by rw[<-hwa];exact Ha.o.alloc (ymZ H2.o Ha.o.size) _);have H9:Str wa (.slice (some ⟨wr.heap.size,0,none⟩) 1 1) [[41]] (.slice A5 n5 c5):=(by rw[<-hwa];exact Str.one (ydZ wr _) (fun q hq=>(HO.o.lt q hq).2));have Hd:=zh Hc;have H4:=zh Hf;have Ho:=zh H9;clear Hc Hf H9;go_wp2_with (at_builtin;refine zlZ rfl _ _ rfl rfl rfl Hd.o Ho.o (by decide) (by have:=H1.o;simp only[ycZ,yhZ,ynZ]at *;omega) (ymZ H2.o H4.o.size) ?_;intro r5 w5 hO5 Hb;have hB5:=zyZ H4.o (ymZ H2.o H4.o.size) Hb (fun g hg=>(Hd.o.lt g hg).1);have Hg:=zh hO5;have Hl:=zh hB5;clear hO5 hB5 Hb);go_ret;exact⟨_,rfl,Hg.o,Hl.o⟩
theorem told4 (n:Nat) (hn:n+1<=1000000) (ih:ToldOk n) (x:Sx.Ex) (hsz:Sx.sizeX x<=n+1) (hok:Sx.okX x) (hnum:Sx.numX x) (hkd:x.kind=4) (v:Value) (W:World) (hG:GL W) (hN:NG<=W.heap.size) (ht:IsEx W v x):ToldIs x v W:=by
 unfold ToldIs;obtain⟨hsh,hrp⟩:=hok.shape;obtain⟨hxn,hnp⟩:=Sx.numX_parts hnum;have H0:=Sx.sizeX_parts x;obtain⟨At,ct,An,cn,Ap,cp,rfl,htt,hnn,hp,hn0,hn1⟩:=ht.agg;unfold Sx.shapeX at hsh;simp only[ygZ]at hsh;obtain⟨h1,h2,h3,h4,h5⟩:=hsh;rw[hkd]at h3 h4 h5
 have HT:=zh (show Sx.expr SY x=[x.s]by
  rw[Sx.expr_eq,hkd]
  simp only[Int.reduceEq,Int.reduceLE,ycbZ,yXZ,yjbZ,ylbZ,or_true,true_or,reduceIte,Nat.reduceEqDiff,ymbZ,true_and,and_false,false_and])
 rw[hkd];obtain⟨L,B,w2,hL,hw2,hB,HX⟩:=boxed hG hN #[.int .i64 x.pos,.int .i64 4,.int .i64 x.n,.string ⟨x.s.toArray⟩,.slice At x.t.length ct,.slice An x.names.length cn,.slice Ap x.parts.length cp];obtain⟨x0,x1,x2,x3,x4,x5,x6⟩:=zbZ HX.o.box;have H1:=zaZ HX.o.box;clear hG hN  ih hsz hn ht htt hnn hp hn0 hn1 hrp hnp hok hnum h1 h2 h4 h5 hkd H0 h3;go_enter Tryz.func34, Tryz.ntmps34;go_wp2_with fail;go_ret;exact⟨.slice (some ⟨B,0,none⟩) 1 1,rfl,by rw[HT.o];exact(HX.o.o1 x.s).base_le HX.o.wb,HX.o.wx _ (HX.o.r2.alloc HX.o.bb _)⟩
theorem told5 (n:Nat) (hn:n+1<=1000000) (ih:ToldOk n) (x:Sx.Ex) (hsz:Sx.sizeX x<=n+1) (hok:Sx.okX x) (hnum:Sx.numX x) (hkd:x.kind=5) (v:Value) (W:World) (hG:GL W) (hN:NG<=W.heap.size) (ht:IsEx W v x):ToldIs x v W:=by
 unfold ToldIs;obtain⟨hsh,hrp⟩:=hok.shape;obtain⟨hxn,hnp⟩:=Sx.numX_parts hnum;have H0:=Sx.sizeX_parts x;obtain⟨At,ct,An,cn,Ap,cp,rfl,htt,hnn,hp,hn0,hn1⟩:=ht.agg;unfold Sx.shapeX at hsh;simp only[ygZ]at hsh;obtain⟨h1,h2,h3,h4,h5⟩:=hsh;rw[hkd]at h3 h4 h5
 have HT:=zh (show Sx.expr SY x=[[115,101,108,102]]by
  rw[Sx.expr_eq,hkd]
  simp only[Int.reduceEq,Int.reduceLE,ycbZ,yXZ,yjbZ,ylbZ,or_true,true_or,reduceIte,Nat.reduceEqDiff,ymbZ,true_and,and_false,false_and])
 rw[hkd];obtain⟨L,B,w2,hL,hw2,hB,HX⟩:=boxed hG hN #[.int .i64 x.pos,.int .i64 5,.int .i64 x.n,.string ⟨x.s.toArray⟩,.slice At x.t.length ct,.slice An x.names.length cn,.slice Ap x.parts.length cp];obtain⟨x0,x1,x2,x3,x4,x5,x6⟩:=zbZ HX.o.box;have H1:=zaZ HX.o.box;clear hG hN  ih hsz hn ht htt hnn hp hn0 hn1 hrp hnp hok hnum h1 h2 h4 h5 hkd H0 h3;go_enter Tryz.func34, Tryz.ntmps34;go_wp2_with fail;go_ret;exact⟨.slice (some ⟨B,0,none⟩) 1 1,rfl,by rw[HT.o];exact(HX.o.o1 [115,101,108,102]).base_le HX.o.wb,HX.o.wx _ (HX.o.r2.alloc HX.o.bb _)⟩
theorem zxtZ (n:Nat) (hn:n+1<=1000000) (ih:ToldOk n) (x:Sx.Ex) (hsz:Sx.sizeX x<=n+1) (hok:Sx.okX x) (hnum:Sx.numX x) (hkd:x.kind=3) (hx:x.n=1) (v:Value) (W:World) (hG:GL W) (hN:NG<=W.heap.size) (ht:IsEx W v x):ToldIs x v W:=by
 unfold ToldIs;obtain⟨hsh,hrp⟩:=hok.shape;obtain⟨hxn,hnp⟩:=Sx.numX_parts hnum;have H0:=Sx.sizeX_parts x;obtain⟨At,ct,An,cn,Ap,cp,rfl,htt,hnn,hp,hn0,hn1⟩:=ht.agg;unfold Sx.shapeX at hsh;simp only[ygZ]at hsh;obtain⟨h1,h2,h3,h4,h5⟩:=hsh;rw[hkd]at h3 h4 h5;rw[hx]
 have HT:=zh (show Sx.expr SY x=[[116,114,117,101]]by
  rw[Sx.expr_eq,hkd];simp only[Int.reduceEq,Int.reduceLE,ycbZ,yXZ,yjbZ,ylbZ,or_true,true_or,reduceIte,Nat.reduceEqDiff,ymbZ,true_and,and_false,false_and];rw[hx]
  rfl)
 rw[hkd];obtain⟨L,B,w2,hL,hw2,hB,HX⟩:=boxed hG hN #[.int .i64 x.pos,.int .i64 3,.int .i64 1,.string ⟨x.s.toArray⟩,.slice At x.t.length ct,.slice An x.names.length cn,.slice Ap x.parts.length cp];obtain⟨x0,x1,x2,x3,x4,x5,x6⟩:=zbZ HX.o.box;have H1:=zaZ HX.o.box;clear hG hN  ih hsz hn ht htt hnn hp hn0 hn1 hrp hnp hok hnum h1 h2 h4 h5 hkd H0 h3 hx;go_enter Tryz.func34, Tryz.ntmps34;go_wp2_with fail;go_ret;exact⟨.slice (some ⟨B,0,none⟩) 1 1,rfl,by rw[HT.o];exact(HX.o.o1 [116,114,117,101]).base_le HX.o.wb,HX.o.wx _ (HX.o.r2.alloc HX.o.bb _)⟩
theorem zxuZ (n:Nat) (hn:n+1<=1000000) (ih:ToldOk n) (x:Sx.Ex) (hsz:Sx.sizeX x<=n+1) (hok:Sx.okX x) (hnum:Sx.numX x) (hkd:x.kind=3) (hx:¬x.n=1) (v:Value) (W:World) (hG:GL W) (hN:NG<=W.heap.size) (ht:IsEx W v x):ToldIs x v W:=by
 unfold ToldIs;obtain⟨hsh,hrp⟩:=hok.shape;obtain⟨hxn,hnp⟩:=Sx.numX_parts hnum;have H0:=Sx.sizeX_parts x;obtain⟨At,ct,An,cn,Ap,cp,rfl,htt,hnn,hp,hn0,hn1⟩:=ht.agg;unfold Sx.shapeX at hsh;simp only[ygZ]at hsh;obtain⟨h1,h2,h3,h4,h5⟩:=hsh;rw[hkd]at h3 h4 h5;have H1:(x.n==1)=false:=by rw[yaZ];exact hx
 have HT:=zh (show Sx.expr SY x=[[102,97,108,115,101]]by
  rw[Sx.expr_eq,hkd];simp only[Int.reduceEq,Int.reduceLE,ycbZ,yXZ,yjbZ,ylbZ,or_true,true_or,reduceIte,Nat.reduceEqDiff,ymbZ,true_and,and_false,false_and]
  rw[if_neg hx])
 rw[hkd];obtain⟨L,B,w2,hL,hw2,hB,HX⟩:=boxed hG hN #[.int .i64 x.pos,.int .i64 3,.int .i64 x.n,.string ⟨x.s.toArray⟩,.slice At x.t.length ct,.slice An x.names.length cn,.slice Ap x.parts.length cp];obtain⟨x0,x1,x2,x3,x4,x5,x6⟩:=zbZ HX.o.box;have H2:=zaZ HX.o.box;clear hG hN  ih hsz hn ht htt hnn hp hn0 hn1 hrp hnp hok hnum h1 h2 h4 h5 hkd H0 h3 hx;go_enter Tryz.func34, Tryz.ntmps34;go_wp2_with fail;go_ret;exact⟨.slice (some ⟨B,0,none⟩) 1 1,rfl,by rw[HT.o];exact(HX.o.o1 [102,97,108,115,101]).base_le HX.o.wb,HX.o.wx _ (HX.o.r2.alloc HX.o.bb _)⟩
theorem told1 (n:Nat) (hn:n+1<=1000000) (ih:ToldOk n) (x:Sx.Ex) (hsz:Sx.sizeX x<=n+1) (hok:Sx.okX x) (hnum:Sx.numX x) (hkd:x.kind=1) (v:Value) (W:World) (hG:GL W) (hN:NG<=W.heap.size) (ht:IsEx W v x):ToldIs x v W:=by
 unfold ToldIs;obtain⟨hsh,hrp⟩:=hok.shape;obtain⟨hxn,hnp⟩:=Sx.numX_parts hnum;have H1:=Sx.sizeX_parts x;obtain⟨At,ct,An,cn,Ap,cp,rfl,htt,hnn,hp,hn0,hn1⟩:=ht.agg;unfold Sx.shapeX at hsh;simp only[ygZ]at hsh;obtain⟨h1,h2,h3,h4,h5⟩:=hsh;rw[hkd]at h3 h4 h5;have h0:0<=x.n:=by simp only[yKZ,yCZ]at h3;omega
 obtain⟨m,hm⟩:=Int.eq_ofNat_of_zero_le h0;have H3:=zh (fun X (h1:GL X) (h2:NG<=X.heap.size)=>(zjwZ m X (by omega) h1 h2).mono fun e w2 h=>(show e=.returned (.string ⟨(SY.digits x.n).toArray⟩)/\Below X.heap.size X w2 from⟨by rw[h.1,hm];rfl,h.2.b⟩));rw[hm]at H3;have H4:=zh hm;rw[hm]
 have HT:=zh (show Sx.expr SY x=[SY.digits x.n]by
  rw[Sx.expr_eq,hkd]
  simp only[Int.reduceEq,Int.reduceLE,ycbZ,yXZ,yjbZ,ylbZ,or_true,true_or,reduceIte,Nat.reduceEqDiff,ymbZ,true_and,and_false,false_and])
 rw[hkd];obtain⟨L,B,w2,hL,hw2,hB,HX⟩:=boxed hG hN #[.int .i64 x.pos,.int .i64 1,.int .i64 ((m:Nat):Int),.string ⟨x.s.toArray⟩,.slice At x.t.length ct,.slice An x.names.length cn,.slice Ap x.parts.length cp];obtain⟨x0,x1,x2,x3,x4,x5,x6⟩:=zbZ HX.o.box;have H5:=zaZ HX.o.box;clear hG hN  ih hsz hn ht htt hnn hp hn0 hn1 hrp hnp hok hnum h1 h2 h4 h5 hkd H1 h0 hm h3 hxn;go_enter Tryz.func34, Tryz.ntmps34;go_wp2_with (go_at_call 76;refine(H3.o w2 (HX.o.gx w2 HX.o.r2).1 (HX.o.gx w2 HX.o.r2).2).mono ?_;rintro e w3 ⟨rfl,H2⟩;have H0:=zh (HX.o.r2.trans (H2.mono HX.o.bb));clear H2);go_ret;refine⟨_,rfl,?_,HX.o.wx _ (H0.o.alloc (ymZ HX.o.bb H0.o.size) _)⟩;rw[HT.o,H4.o];exact(OwnS.one (ydZ w3 _) (ymZ HX.o.bb H0.o.size)).base_le HX.o.wb
theorem told2 (n:Nat) (hn:n+1<=1000000) (ih:ToldOk n) (x:Sx.Ex) (hsz:Sx.sizeX x<=n+1) (hok:Sx.okX x) (hnum:Sx.numX x) (hkd:x.kind=2) (v:Value) (W:World) (hG:GL W) (hN:NG<=W.heap.size) (ht:IsEx W v x):ToldIs x v W:=by
 unfold ToldIs;obtain⟨hsh,hrp⟩:=hok.shape;obtain⟨hxn,hnp⟩:=Sx.numX_parts hnum;have H0:=Sx.sizeX_parts x;obtain⟨At,ct,An,cn,Ap,cp,rfl,htt,hnn,hp,hn0,hn1⟩:=ht.agg;unfold Sx.shapeX at hsh;simp only[ygZ]at hsh;obtain⟨h1,h2,h3,h4,h5⟩:=hsh;rw[hkd]at h3 h4 h5;have HQ:=zh (fun X=>(zhuZ ⟨x.s.toArray⟩ X (by show x.s.toArray.size<=4000000;simp;omega)).mono fun e w2 h=>(show e=.returned (.string ⟨(SY.quote x.s).toArray⟩)/\X=w2 from⟨by rw[h.1];simp[SY],h.2.symm⟩))
 have HT:=zh (show Sx.expr SY x=[SY.quote x.s]by
  rw[Sx.expr_eq,hkd]
  simp only[Int.reduceEq,Int.reduceLE,ycbZ,yXZ,yjbZ,ylbZ,or_true,true_or,reduceIte,Nat.reduceEqDiff,ymbZ,true_and,and_false,false_and])
 rw[hkd];obtain⟨L,B,w2,hL,hw2,hB,HX⟩:=boxed hG hN #[.int .i64 x.pos,.int .i64 2,.int .i64 x.n,.string ⟨x.s.toArray⟩,.slice At x.t.length ct,.slice An x.names.length cn,.slice Ap x.parts.length cp];obtain⟨x0,x1,x2,x3,x4,x5,x6⟩:=zbZ HX.o.box;have H1:=zaZ HX.o.box;clear hG hN  ih hsz hn ht htt hnn hp hn0 hn1 hrp hnp hok hnum h1 h2 h4 h5 hkd H0 h3;go_enter Tryz.func34, Tryz.ntmps34;go_wp2_with (go_at_call 77;refine(HQ.o w2).mono ?_;rintro e w3 ⟨rfl,rfl⟩);go_ret;exact⟨.slice (some ⟨B,0,none⟩) 1 1,rfl,by rw[HT.o];exact(HX.o.o1 (SY.quote x.s)).base_le HX.o.wb,HX.o.wx _ (HX.o.r2.alloc HX.o.bb _)⟩
end Go.Proofs.YtdncljdfmdgdaaaGreatDoor
