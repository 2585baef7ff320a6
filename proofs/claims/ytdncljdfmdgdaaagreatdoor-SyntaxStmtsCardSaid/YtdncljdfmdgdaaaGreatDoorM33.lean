/-
  The walks of coilref2.block, Listed.
-/
import Derived.Test.YtdncljdfmdgdaaaGreatDoorM32
set_option linter.unusedSimpArgs false
set_option linter.unusedVariables false
set_option maxRecDepth 100000
set_option maxHeartbeats 16000000
namespace Go.Proofs.YtdncljdfmdgdaaaGreatDoor
open Go.RowKit Go.Shelf
attribute [local go_sem] opWp zoZ zvZ zpZ
theorem Sx.numS_all {s:Sx.St} (h:Sx.numS s):Sx.numXs s.x/\Sx.numSs s.body/\Sx.numSs s.els:=by cases s;rw[Sx.numS]at h;exact h
def ListedOk (l:List Sx.St):Prop:=(∀s∈l,Sx.okS s)->Sx.numSs l->Sx.sizeSs l<=1000000->∀(v:Value) (W:World),GL W->NG<=W.heap.size->StRow W v l->
 Calls Tryz.prog 39 #[v] W fun e W'=>∃u,e=.returned u/\OwnS W' W.heap.size u (Sx.stmts SY l)/\Below W.heap.size W W'
def BracedOk (l:List Sx.St):Prop:=(∀s∈l,Sx.okS s)->Sx.numSs l->Sx.sizeSs l<=1000000->∀(v:Value) (W:World),GL W->NG<=W.heap.size->StRow W v l->
 Calls Tryz.prog 84 #[v] W fun e W'=>∃u,e=.returned u/\OwnS W' W.heap.size u (Sx.braced l)/\Below W.heap.size W W'
theorem zmeZ {l:List Sx.St} (ih:ListedOk l):BracedOk l:=by
 intro H4 H2 H5 v W hG hN hv;have H0:=Sx.stmts_len SY l;have H6:=zh (fun X (h:Below W.heap.size W X)=>ih H4 H2 H5 v X (hG.below h) (ymZ hN h.size) (hv.below h));obtain⟨A,c,rfl,-,-⟩:=hv;obtain⟨n,hn⟩:=zE (l.length);obtain⟨m,hm⟩:=zE (Sx.stmts SY l);rw[hn,hm]at H6;rw[hm]at H0;rw[hn];unfold Sx.braced;rw[hm];have H3:=zh (show m.length<=8000000 by omega);have H1:=zh (ybZ W.heap.size);clear ih H4 H2 H5 H0 hn hm hG hN;go_enter Tryz.func84, Tryz.ntmps84;go_upto_region 1 with fail
 have hB0:Below W.heap.size W W:=yqZ _ _;have hO0:OwnS W W.heap.size (.slice none 0 0) []:=yOZ _ _ _ _;obtain⟨Fs,⟨F0,F1,F2,F3,F4,F5,F6,-⟩,hstay⟩:=zrZ [AppF 0,IsF (.slice A n c),StrF m,AppF 1,StrF [[125]],AppF 2,AppF 2];obtain⟨Lf,⟨L0,L1,L2,L3,-⟩,hL⟩:=zbkZ ([[123]]) [m,[[125]]] (by simp only[tot];(have h1:=H3.o;simp only[ycZ,yhZ,ynZ]at *;omega));refine zbeZ (apps:=[0,3,5]) hstay hB0 hO0 L0 L3 F6 ?_ ?_
 ·repeat' first | refine OpsOk.cons ?_ ?_ | fail
  ·exact .h0 H1.o F0 L1
  ·exact .m F1 (.n 0)
  ·exact .C H1.o F2 Tryz.func39 (.f 4 F1) fun w hb=>H6.o w hb
  ·exact .E 3 5 H1.o hL F3 L1 L2 F0 F2
  ·exact .o0 H1.o F4
  ·exact .N 6 7 H1.o hL F5 L2 L3 F3 F4
  ·exact .aa F6 F5 8
  ·exact .nil
 ·intro uq wq rq hBz hOz hz;simp only[yyZ,fillAct,Act.put,yoZ,yzZ,yAZ,hz];clear F0 F1 F2 F3 F4 F5 F6 hstay hL L0 L1 L2 L3 hz;have H8:=zh hOz;have H7:=zh hBz;clear hOz hBz;go_wp2_with fail;go_ret;exact⟨_,rfl,H8.o,H7.o⟩
theorem zouZ (l:List Sx.St) (ih:∀s∈l,BracedOk s.body/\BracedOk s.els):ListedOk l:=by
 intro Jd Hq J1 v W hG hN hv;have U3:=Sx.length_sizeSs l;obtain⟨A1,c1,rfl,hca,H9⟩:=hv;have HV:=zh (show StRow W (.slice A1 l.length c1) l from⟨A1,c1,rfl,hca,H9⟩);obtain⟨k,hk⟩:=zE (l.length);rw[hk]at HV ⊢;have k0:(0:Int)<=(k:Int):=by omega
 have k1:(k:Int)<=1000000:=by omega
 obtain⟨B,hB⟩:=zE (W.heap.size);have Hk:=zh (fun X (h:Below B W X)=>(show GL X/\NG<=X.heap.size by rw[<-hB]at h;exact⟨hG.below h,ymZ hN h.size⟩));have H3:=zh (show B<=W.heap.size by rw[hB];exact ybZ _);have HK:=zh hk;have Jc:=zh (And.intro Jd Hq);have Ju:=zh J1;have Jj:=zh ih;have HB:=zh hB;have Jw:=zh (show(Sx.stmts SY l).length<=8000000 by have:=Sx.stmts_len SY l;omega);clear hca H9 U3 hk Jd Hq J1 ih hB hG hN;go_enter Tryz.func39, Tryz.ntmps39;go_wp2_with fail;go_loopg [3,4,5,6] k (fun i v3 v4 v5 v6 wr=>∃(m:Nat) (A:Option Addr) (n c:Nat),i=k-m/\v3=.slice A n c/\v4=.int .i64 (m:Nat)/\m<=k/\OwnS wr B (.slice A n c) (Sx.stmts SY (l.take m))/\Below B W wr)
 case atStart=>exact⟨0,none,0,0,rfl,rfl,rfl,yxZ _,by rw[List.take_zero];exact yOZ _ _ _ _,yqZ _ _⟩
 case round=>
  obtain⟨m,A,n,c,hi,rfl,rfl,hm,ho,hb⟩:=hrel;have HI:=zh hi;have HO:=zh ho;have Hu:=zh hb;have m0:(0:Int)<=(m:Int):=(by omega);have m1:(m:Int)<=1000000:=(by omega);clear hi ho hb;by_cases hlt:m<k
  ·have Jo:(m:Int)<(k:Int):=(by omega);have U9:IntKind.i64.wrap ((m:Int)+1)=(m:Int)+1:=(by rw[yQZ];omega);have Hp:m<l.length:=(by have:=HK.o;omega);obtain⟨g,off,At,ct,Ax,cx,Ab,cb,Ae,ce,rfl,hty,hc5⟩:=HV.o.spot m Hp;have Hb:=yfZ Hp;have J8:=Sx.stmts_take Hp;obtain⟨p,hpe⟩:=zE (l[m]'Hp);rw[hpe]at hty hc5 Hb J8;obtain⟨gk,gx,gn,gt,gb,ge,gbs,ges⟩:=(Jc.o.1 p Hb).good;obtain⟨n1,n2,n3⟩:=Sx.numS_all (Sx.numSs_mem Jc.o.2 p Hb);have Jx:=Sx.sizeS_mem Hb;have U1:=Sx.sizeS_parts p;have J1:=Ju.o;obtain⟨D0,d0,D1,d1,D2,d2,D3,d3,hve,hT,hX,hBd,hE⟩:=hty.agg;simp only[Value.agg.injEq,ykbZ,ygbZ,Value.slice.injEq,true_and,ymbZ]at hve;obtain⟨⟨rfl,rfl⟩,⟨rfl,rfl⟩,⟨rfl,rfl⟩,rfl,rfl⟩:=hve;have h0:0<p.x.length:=(by omega);obtain⟨gq,offq,Aq1,cq1,Aq2,cq2,Aq3,cq3,rfl,htq,hcq⟩:=hX.spot 0 h0;have Hd:=yfZ h0;have Hy:=gx.2 h0;have Hj:=Sx.stmt_eq p h0;obtain⟨q,hqe⟩:=zE (p.x[0]'h0);rw[hqe]at htq hcq Hd Hy Hj;rw[yrZ,ypZ]at hcq;have Js:=Sx.sizeX_mem Hd;have Hm:=Sx.expr_len SY q;have U6:=Sx.expr_pos ⟨64,Hy⟩;have Jv:=Sx.stmts_len SY p.body;have J3:=Sx.stmts_len SY p.els;have Jb:=Sx.typL_len p.t;have Jz:=Sx.stmts_le l m;have Jr:(Sx.braced p.body).length=(Sx.stmts SY p.body).length+2:=(by simp[Sx.braced]);have U2:(Sx.braced p.els).length=(Sx.stmts SY p.els).length+2:=(by simp[Sx.braced]);have H0:=zh (show(Sx.stmts SY (l.take m)).length<=8000000/\(Sx.expr SY q).length<=8000000/\(Sx.braced p.body).length<=8000002/\(Sx.braced p.els).length<=8000002/\(Sx.typL p.t).length<=8000000 by have:=Jw.o;omega);have H4:=zh (show 0<(Sx.expr SY q).length/\0<(Sx.braced p.body).length/\0<(Sx.braced p.els).length by omega);have He:=zh (fun X (h:Below B W X)=>zwbZ 1000000 (ybZ _) q (by omega) ⟨64,Hy⟩ (Sx.numXs_mem n1 q Hd) _ X (Hk.o X h).1 (Hk.o X h).2 (IsEx.below (by rw[HB.o];exact h) _ _ htq));have J2:=zh (fun X (h:Below B W X)=>(Jj.o p Hb).1 gbs n2 (by omega) _ X (Hk.o X h).1 (Hk.o X h).2 (hBd.below (by rw[HB.o];exact h)));have Jm:=zh (fun X (h:Below B W X)=>(Jj.o p Hb).2 ges n3 (by omega) _ X (Hk.o X h).1 (Hk.o X h).2 (hE.below (by rw[HB.o];exact h)));rw[HB.o]at hc5 hcq;have J4:=zh hc5;have Jn:=zh hcq;have HT:=zh hT;have Ja:=zh gt;have Je:=zh (And.intro gb ge);have Jt:=zh (show Sx.sizeL p.t<=1000000 by omega);have Hf:=zh J8;have Ha:=zh Hj;rw[gx.1]at hc5 J4;obtain⟨ps,hps⟩:=zE (p.pos);obtain⟨kd,hkd⟩:=zE (p.kind);obtain⟨nm,hnm⟩:=zE (p.name);rw[hps,hkd,hnm]at J4;rw[hkd,hnm]at Ha;rw[hkd]at gk Ja Je;obtain⟨sl,hsl⟩:=zE (Sx.stmts SY (l.take m));obtain⟨tx,htx⟩:=zE (Sx.expr SY q);obtain⟨bb,hbb⟩:=zE (Sx.braced p.body);obtain⟨be,hbe⟩:=zE (Sx.braced p.els);rw[hsl]at H0 HO Hf;unfold ToldIs at He;rw[htx]at H0 H4 He Ha;rw[hbb]at H0 H4 J2 Ha;rw[hbe]at H0 H4 Jm Ha;clear hps hkd hnm hsl htx hbb hbe hty hc5 Hb J8 hpe gx gn gt gb ge gbs ges n1 n2 n3 Jx U1 J1 hT hX hBd hE htq hcq Hd Hy Hj hqe Js Hm U6 Jv J3 Jb Jz Jr U2 h0 Hp;obtain⟨hg,e0,e1,e2,e3,e4,e5,e6⟩:=J4.o wr Hu.o;obtain⟨L,hL⟩:=zE (wr.heap.size);obtain⟨wa,hwa⟩:=zE (wr.alloc (.cells #[.int .i64 ps,.int .i64 kd,.string ⟨nm.toArray⟩,.slice At p.t.length ct,.slice (some ⟨gq,offq,none⟩) 1 cx,.slice Ab p.body.length cb,.slice Ae p.els.length ce] 69));have J6:Below wr.heap.size wr wa:=(by rw[<-hwa];exact(yqZ _ _).alloc (ybZ _) _);have Ht:wa.heap[L]? =some (.cells #[.int .i64 ps,.int .i64 kd,.string ⟨nm.toArray⟩,.slice At p.t.length ct,.slice (some ⟨gq,offq,none⟩) 1 cx,.slice Ab p.body.length cb,.slice Ae p.els.length ce] 69 (0,0)):=(by rw[<-hwa,<-hL];exact ydZ wr _);have Ji:=zh (show wr.heap.size=L/\wr.alloc (.cells #[.int .i64 ps,.int .i64 kd,.string ⟨nm.toArray⟩,.slice At p.t.length ct,.slice (some ⟨gq,offq,none⟩) 1 cx,.slice Ab p.body.length cb,.slice Ae p.els.length ce] 69)=wa from⟨hL,hwa⟩);have Hv:=zh (show Below B W wa from Hu.o.trans (J6.mono (ymZ H3.o Hu.o.size)));have J7:=zh (show OwnS wa B (.slice A n c) sl/\∀b,(Value.slice A n c).ownBlock=some b->b<L from⟨HO.o.below J6,fun b e=>by rw[<-hL];exact(HO.o.lt b e).2⟩);have Jk:=zh Ht;clear J6 hL hwa;go_upto_region 6 with fail
   rw[Ji.o.1,Ji.o.2];clear hg e0 e1 e2 e3 e4 e5 e6;obtain⟨x0,x1,x2,x3,x4,x5,x6⟩:=zbZ Ht;have H1:=zaZ Ht;obtain⟨hg,e0,e1,e2,e3,e4,e5,e6⟩:=Jn.o wa Hv.o;clear Ht;go_upto_region 7 with(go_at_call 34;refine(He.o wa Hv.o).mono ?_;rintro e w5 ⟨u5,rfl,J0,Hw⟩)
   obtain⟨A5,c5,rfl⟩:=J0.slice;obtain⟨vx,hvx⟩:=zE (Value.slice A5 tx.length c5);rw[hvx]at J0 ⊢;have H1:=zaZ Jk.o;have HR:=zh (show RowAt #[.int .i64 ps,.int .i64 kd,.string ⟨nm.toArray⟩,.slice At p.t.length ct,.slice (some ⟨gq,offq,none⟩) 1 cx,.slice Ab p.body.length cb,.slice Ae p.els.length ce] L vx tx B W sl w5 (.slice A n c)from⟨J7.o.1.below Hw,⟨(Hw.block L H1).trans Jk.o,fun e=>by have:=J7.o.2 L e;omega,Str.of_own J0 fun g hg=>Nat.lt_trans (J7.o.2 g hg) H1⟩,Hv.o.trans (Hw.mono (ymZ H3.o Hv.o.size))⟩);clear J0 Hw hvx H1 x0 x1 x2 x3 x4 x5 x6 hg e0 e1 e2 e3 e4 e5 e6;obtain⟨x0,x1,x2,x3,x4,x5,x6⟩:=zbZ HR.o.bes.box;have H1:=zaZ HR.o.bes.box;have Jp:kd=1\/kd=2\/kd=3\/kd=6\/kd=7\/kd=5\/kd=4:=(by omega);rcases Jp with rfl | rfl | rfl | rfl | rfl | rfl | rfl
   ·skip
    go_upto_region 10 with(at_builtin;refine zzZ rfl _ _ rfl rfl (m:=[[108,101,116],nm]) rfl HR.o rfl (by simp) (by have h1:=H0.o;(try simp only[ycZ,yhZ,ynZ]);omega) H3.o ?_;intro Aa na ca wa H9;have H7:=zh H9;clear H9;clear x0 x1 x2 x3 x4 x5 x6 H1;obtain⟨x0,x1,x2,x3,x4,x5,x6⟩:=zbZ H7.o.bes.box;have H1:=zaZ H7.o.bes.box)
    by_cases Jb:p.t.length=1
    ·have Jq:((p.t.length:Nat):Int)=1:=(by omega);have Hl:0<p.t.length:=(by omega);have hT:=HT.o;obtain⟨gt,offt,At1,ct1,Ae1,ce1,Ap1,cp1,rfl,htt,hct⟩:=hT.spot 0 Hl;have Hx:∃d,Sx.rightT NM d (p.t[0]'Hl)=true:=by
      rcases Ja.o with h | ⟨-,-,h⟩
      ·omega
      ·exact⟨64,by rw[Sx.right0_head _ Hl];exact h⟩
     have Hi:=Sx.typL_head Hl;have Ho:=Sx.size_mem (yfZ Hl);obtain⟨t,hte⟩:=zE (p.t[0]'Hl);rw[hte]at htt hct Hx Hi Ho;rw[yrZ,ypZ,HB.o]at hct;have Hs:=zh (fun X (h:Below B W X)=>zhsZ 1000000 (ybZ _) t (by have:=Jt.o;omega) Hx _ X (IsTy.below (by rw[HB.o];exact h) _ _ htt));have Jh:=zh (show 0<(Sx.typ t).length by obtain⟨d,hd⟩:=Hx;exact Sx.typ_pos hd);rw[Hi]at H0 Ha;obtain⟨tt,htt2⟩:=zE (Sx.typ t);rw[htt2]at Hs Jh H0 Ha;have U0:=zh hct;obtain⟨hg,e0,e1,e2,e3,e4⟩:=U0.o wa H7.o.b;clear hT htt Hx Hi Ho hte htt2 hct
     go_upto_region 12 with(first
      | (go_at_call 28;refine(Hs.o wa H7.o.b).mono ?_;rintro e wt ⟨ut,rfl,Jg,Jf⟩;have Jy:=zh Jg;have U4:=zh Jf;clear Jg Jf)
      | (at_builtin;refine zlyZ rfl _ _ rfl rfl rfl H7.o Jy.o U4.o Jh.o (by have h1:=H0.o;(try simp only[ycZ,yhZ,ynZ]);omega) H3.o ?_;intro Ab2 nb2 cb2 wb H8;have H5:=zh H8;clear H8;clear x0 x1 x2 x3 x4 x5 x6 H1;obtain⟨x0,x1,x2,x3,x4,x5,x6⟩:=zbZ H5.o.bes.box;have H1:=zaZ H5.o.bes.box))
     have H2:=zh (show Sx.stmts SY (l.take (m+1))=sl++[[108,101,116],nm]++tt++[[61]]++tx++[[59]]by
      rw[Hf.o,Ha.o]
      simp[yiZ])
     go_wp2_with (first
      | (at_builtin;refine zzZ rfl _ _ rfl rfl (m:=[[61]]) rfl H5.o rfl (by simp) (by have h1:=H0.o;(try simp only[ycZ,yhZ,ynZ]);omega) H3.o ?_;intro Ac nc cc wc Hc;have H6:=zh Hc;clear Hc;clear x0 x1 x2 x3 x4 x5 x6 H1;obtain⟨x0,x1,x2,x3,x4,x5,x6⟩:=zbZ H6.o.bes.box;have H1:=zaZ H6.o.bes.box)
      | (at_builtin;refine zbmZ rfl _ _ rfl rfl rfl H6.o H4.o.1 (by have h1:=H0.o;(try simp only[ycZ,yhZ,ynZ]);omega) H3.o ?_;intro Ad nd cd wd Hn;have Hh:=zh Hn;clear Hn;clear x0 x1 x2 x3 x4 x5 x6 H1;obtain⟨x0,x1,x2,x3,x4,x5,x6⟩:=zbZ Hh.o.bes.box;have H1:=zaZ Hh.o.bes.box)
      | (at_builtin;refine zzZ rfl _ _ rfl rfl (m:=[[59]]) rfl Hh.o rfl (by simp) (by have h1:=H0.o;(try simp only[ycZ,yhZ,ynZ]);omega) H3.o ?_;intro Ae ne ce we Jl;have Hz:=zh Jl;clear Jl;clear x0 x1 x2 x3 x4 x5 x6 H1;obtain⟨x0,x1,x2,x3,x4,x5,x6⟩:=zbZ Hz.o.bes.box;have H1:=zaZ Hz.o.bes.box))
     go_roundg (k-(m+1))
     case measure=>have:=HI.o;omega
     case rel=>exact⟨m+1,Ae,_,ce,rfl,rfl,by simp,hlt,by rw[H2.o];exact Hz.o.own,Hz.o.b⟩
    ·have Jq:¬((p.t.length:Nat):Int)=1:=by omega
     have U7:=zh (show Sx.typL p.t=[]by
      rcases Ja.o with h | ⟨-,h,-⟩
      ·rw[yabZ.1 h,Sx.typL]
      ·omega)
     rw[U7.o]at Ha
     have H2:=zh (show Sx.stmts SY (l.take (m+1))=sl++[[108,101,116],nm]++[[61]]++tx++[[59]]by
      rw[Hf.o,Ha.o]
      simp[yiZ])
     go_wp2_with (first
      | (at_builtin;refine zzZ rfl _ _ rfl rfl (m:=[[61]]) rfl H7.o rfl (by simp) (by have h1:=H0.o;(try simp only[ycZ,yhZ,ynZ]);omega) H3.o ?_;intro Ab nb cb wb H8;have H5:=zh H8;clear H8;clear x0 x1 x2 x3 x4 x5 x6 H1;obtain⟨x0,x1,x2,x3,x4,x5,x6⟩:=zbZ H5.o.bes.box;have H1:=zaZ H5.o.bes.box)
      | (at_builtin;refine zbmZ rfl _ _ rfl rfl rfl H5.o H4.o.1 (by have h1:=H0.o;(try simp only[ycZ,yhZ,ynZ]);omega) H3.o ?_;intro Ac nc cc wc Hc;have H6:=zh Hc;clear Hc;clear x0 x1 x2 x3 x4 x5 x6 H1;obtain⟨x0,x1,x2,x3,x4,x5,x6⟩:=zbZ H6.o.bes.box;have H1:=zaZ H6.o.bes.box)
      | (at_builtin;refine zzZ rfl _ _ rfl rfl (m:=[[59]]) rfl H6.o rfl (by simp) (by have h1:=H0.o;(try simp only[ycZ,yhZ,ynZ]);omega) H3.o ?_;intro Ad nd cd wd Hn;have Hh:=zh Hn;clear Hn;clear x0 x1 x2 x3 x4 x5 x6 H1;obtain⟨x0,x1,x2,x3,x4,x5,x6⟩:=zbZ Hh.o.bes.box;have H1:=zaZ Hh.o.bes.box))
     go_roundg (k-(m+1))
     case measure=>have:=HI.o;omega
     case rel=>exact⟨m+1,Ad,_,cd,rfl,rfl,by simp,hlt,by rw[H2.o];exact Hh.o.own,Hh.o.b⟩
   ·have H2:=zh (show Sx.stmts SY (l.take (m+1))=sl++[nm,[61]]++tx++[[59]]by
     rw[Hf.o,Ha.o]
     simp[yiZ])
    go_wp2_with (first
     | (at_builtin;refine zzZ rfl _ _ rfl rfl (m:=[nm,[61]]) rfl HR.o rfl (by simp) (by have h1:=H0.o;(try simp only[ycZ,yhZ,ynZ]);omega) H3.o ?_;intro Aa na ca wa H9;have H7:=zh H9;clear H9;clear x0 x1 x2 x3 x4 x5 x6 H1;obtain⟨x0,x1,x2,x3,x4,x5,x6⟩:=zbZ H7.o.bes.box;have H1:=zaZ H7.o.bes.box)
     | (at_builtin;refine zbmZ rfl _ _ rfl rfl rfl H7.o H4.o.1 (by have h1:=H0.o;(try simp only[ycZ,yhZ,ynZ]);omega) H3.o ?_;intro Ab nb cb wb H8;have H5:=zh H8;clear H8;clear x0 x1 x2 x3 x4 x5 x6 H1;obtain⟨x0,x1,x2,x3,x4,x5,x6⟩:=zbZ H5.o.bes.box;have H1:=zaZ H5.o.bes.box)
     | (at_builtin;refine zzZ rfl _ _ rfl rfl (m:=[[59]]) rfl H5.o rfl (by simp) (by have h1:=H0.o;(try simp only[ycZ,yhZ,ynZ]);omega) H3.o ?_;intro Ac nc cc wc Hc;have H6:=zh Hc;clear Hc;clear x0 x1 x2 x3 x4 x5 x6 H1;obtain⟨x0,x1,x2,x3,x4,x5,x6⟩:=zbZ H6.o.bes.box;have H1:=zaZ H6.o.bes.box))
    go_roundg (k-(m+1))
    case measure=>have:=HI.o;omega
    case rel=>exact⟨m+1,Ac,_,cc,rfl,rfl,by simp,hlt,by rw[H2.o];exact H6.o.own,H6.o.b⟩
   ·have H2:=zh (show Sx.stmts SY (l.take (m+1))=sl++[[112,114,105,110,116]]++tx++[[59]]by
     rw[Hf.o,Ha.o]
     simp[yiZ])
    go_wp2_with (first
     | (at_builtin;refine zzZ rfl _ _ rfl rfl (m:=[[112,114,105,110,116]]) rfl HR.o rfl (by simp) (by have h1:=H0.o;(try simp only[ycZ,yhZ,ynZ]);omega) H3.o ?_;intro Aa na ca wa H9;have H7:=zh H9;clear H9;clear x0 x1 x2 x3 x4 x5 x6 H1;obtain⟨x0,x1,x2,x3,x4,x5,x6⟩:=zbZ H7.o.bes.box;have H1:=zaZ H7.o.bes.box)
     | (at_builtin;refine zbmZ rfl _ _ rfl rfl rfl H7.o H4.o.1 (by have h1:=H0.o;(try simp only[ycZ,yhZ,ynZ]);omega) H3.o ?_;intro Ab nb cb wb H8;have H5:=zh H8;clear H8;clear x0 x1 x2 x3 x4 x5 x6 H1;obtain⟨x0,x1,x2,x3,x4,x5,x6⟩:=zbZ H5.o.bes.box;have H1:=zaZ H5.o.bes.box)
     | (at_builtin;refine zzZ rfl _ _ rfl rfl (m:=[[59]]) rfl H5.o rfl (by simp) (by have h1:=H0.o;(try simp only[ycZ,yhZ,ynZ]);omega) H3.o ?_;intro Ac nc cc wc Hc;have H6:=zh Hc;clear Hc;clear x0 x1 x2 x3 x4 x5 x6 H1;obtain⟨x0,x1,x2,x3,x4,x5,x6⟩:=zbZ H6.o.bes.box;have H1:=zaZ H6.o.bes.box))
    go_roundg (k-(m+1))
    case measure=>have:=HI.o;omega
    case rel=>exact⟨m+1,Ac,_,cc,rfl,rfl,by simp,hlt,by rw[H2.o];exact H6.o.own,H6.o.b⟩
   ·have H2:=zh (show Sx.stmts SY (l.take (m+1))=sl++[[114,101,116,117,114,110]]++tx++[[59]]by
     rw[Hf.o,Ha.o]
     simp[yiZ])
    go_wp2_with (first
     | (at_builtin;refine zzZ rfl _ _ rfl rfl (m:=[[114,101,116,117,114,110]]) rfl HR.o rfl (by simp) (by have h1:=H0.o;(try simp only[ycZ,yhZ,ynZ]);omega) H3.o ?_;intro Aa na ca wa H9;have H7:=zh H9;clear H9;clear x0 x1 x2 x3 x4 x5 x6 H1;obtain⟨x0,x1,x2,x3,x4,x5,x6⟩:=zbZ H7.o.bes.box;have H1:=zaZ H7.o.bes.box)
     | (at_builtin;refine zbmZ rfl _ _ rfl rfl rfl H7.o H4.o.1 (by have h1:=H0.o;(try simp only[ycZ,yhZ,ynZ]);omega) H3.o ?_;intro Ab nb cb wb H8;have H5:=zh H8;clear H8;clear x0 x1 x2 x3 x4 x5 x6 H1;obtain⟨x0,x1,x2,x3,x4,x5,x6⟩:=zbZ H5.o.bes.box;have H1:=zaZ H5.o.bes.box)
     | (at_builtin;refine zzZ rfl _ _ rfl rfl (m:=[[59]]) rfl H5.o rfl (by simp) (by have h1:=H0.o;(try simp only[ycZ,yhZ,ynZ]);omega) H3.o ?_;intro Ac nc cc wc Hc;have H6:=zh Hc;clear Hc;clear x0 x1 x2 x3 x4 x5 x6 H1;obtain⟨x0,x1,x2,x3,x4,x5,x6⟩:=zbZ H6.o.bes.box;have H1:=zaZ H6.o.bes.box))
    go_roundg (k-(m+1))
    case measure=>have:=HI.o;omega
    case rel=>exact⟨m+1,Ac,_,cc,rfl,rfl,by simp,hlt,by rw[H2.o];exact H6.o.own,H6.o.b⟩
   ·have H2:=zh (show Sx.stmts SY (l.take (m+1))=sl++tx++[[59]]by
     rw[Hf.o,Ha.o]
     simp[yiZ])
    go_wp2_with (first
     | (at_builtin;refine zbmZ rfl _ _ rfl rfl rfl HR.o H4.o.1 (by have h1:=H0.o;(try simp only[ycZ,yhZ,ynZ]);omega) H3.o ?_;intro Aa na ca wa H9;have H7:=zh H9;clear H9;clear x0 x1 x2 x3 x4 x5 x6 H1;obtain⟨x0,x1,x2,x3,x4,x5,x6⟩:=zbZ H7.o.bes.box;have H1:=zaZ H7.o.bes.box)
     | (at_builtin;refine zzZ rfl _ _ rfl rfl (m:=[[59]]) rfl H7.o rfl (by simp) (by have h1:=H0.o;(try simp only[ycZ,yhZ,ynZ]);omega) H3.o ?_;intro Ab nb cb wb H8;have H5:=zh H8;clear H8;clear x0 x1 x2 x3 x4 x5 x6 H1;obtain⟨x0,x1,x2,x3,x4,x5,x6⟩:=zbZ H5.o.bes.box;have H1:=zaZ H5.o.bes.box))
    go_roundg (k-(m+1))
    case measure=>have:=HI.o;omega
    case rel=>exact⟨m+1,Ab,_,cb,rfl,rfl,by simp,hlt,by rw[H2.o];exact H5.o.own,H5.o.b⟩
   ·have H2:=zh (show Sx.stmts SY (l.take (m+1))=sl++[[119,104,105,108,101]]++tx++bb by
     rw[Hf.o,Ha.o,(show p.els.isEmpty=true by rcases Je.o.2 with h | h;omega;rw[h];rfl)]
     simp[yiZ])
    go_upto_region 22 with fail
    clear x0 x1 x2 x3 x4 x5 x6 H1;have hB0:Below B W w5.drew:=Below.drewN HR.o.b 1;have hO0:OwnS w5.drew B (.slice A n c) (sl):=HR.o.own;have hS0:BesideS (#[.int .i64 ps,.int .i64 5,.string ⟨nm.toArray⟩,.slice At p.t.length ct,.slice (some ⟨gq,offq,none⟩) 1 cx,.slice Ab p.body.length cb,.slice Ae p.els.length ce]) L vx tx w5.drew (.slice A n c):=⟨HR.o.bes.box,HR.o.bes.ne,HR.o.bes.row⟩;obtain⟨Fs,⟨F0,F1,F2,F3,F4,F5,F6,F7,F8,F9,-⟩,hstay⟩:=zrZ [IsF (.slice A n c),StrF [[119,104,105,108,101]],AppF 0,StrF tx,AppF 1,IsF (.pointer (some ⟨L,5,none⟩)),IsF (.slice Ab p.body.length cb),StrF bb,AppF 2,AppF 2];obtain⟨Lf,⟨L0,L1,L2,L3,-⟩,hL⟩:=zbdZ ((sl)) [[[119,104,105,108,101]],tx,bb] (by simp only[tot];(have h1:=H0.o;simp only[ycZ,yhZ,ynZ]at *;omega));refine zfhZ (apps:=[2,4,8]) hstay hB0 hO0 hS0 L0 L3 F9 ?_ ?_
    ·repeat' first | refine OpsOk.cons ?_ ?_ | fail
     ·exact .m F0 (.z 3 9 [8,4,2,0])
     ·exact .x (.o0 H3.o F1)
     ·exact .x (.N0 87 88 H3.o hL F2 L0 L1 F0 F1)
     ·exact .rx F3 (.n 6)
     ·exact .x (.N 89 90 H3.o hL F4 L1 L2 F2 F3 (hm:=H4.o.1))
     ·exact .fl Bx.s F5 (.n 5)
     ·exact .ld Bx.s F6 (.f 92 F5)
     ·exact .x (.C H3.o F7 Tryz.func84 (.f 93 F6) fun w hb=>J2.o w hb)
     ·exact .x (.N 91 94 H3.o hL F8 L2 L3 F4 F7 (hm:=H4.o.2.1))
     ·exact .x (.aa F9 F8 95)
     ·exact .nil
    ·intro uq wq rq hSz hBz hOz hz;simp only[yyZ,fillAct,Act.put,yoZ,yzZ,yAZ,hz];clear F0 F1 F2 F3 F4 F5 F6 F7 F8 F9 hstay hL L0 L1 L2 L3 hz;obtain⟨Az,cz,rfl⟩:=hOz.slice;have J9:=zh hOz;have J5:=zh hBz;clear hOz hBz hSz;go_wp2_with fail;go_roundg (k-(m+1))
     case measure=>have:=HI.o;omega
     case rel=>exact⟨m+1,Az,_,cz,rfl,rfl,by simp,hlt,by rw[H2.o];simpa[yiZ]using J9.o,J5.o⟩
   ·go_upto_region 24 with fail
    clear x0 x1 x2 x3 x4 x5 x6 H1;have hB0:Below B W w5.drew:=Below.drewN HR.o.b 1;have hO0:OwnS w5.drew B (.slice A n c) (sl):=HR.o.own;have hS0:BesideS (#[.int .i64 ps,.int .i64 4,.string ⟨nm.toArray⟩,.slice At p.t.length ct,.slice (some ⟨gq,offq,none⟩) 1 cx,.slice Ab p.body.length cb,.slice Ae p.els.length ce]) L vx tx w5.drew (.slice A n c):=⟨HR.o.bes.box,HR.o.bes.ne,HR.o.bes.row⟩;obtain⟨Fs,⟨F0,F1,F2,F3,F4,F5,F6,F7,F8,F9,-⟩,hstay⟩:=zrZ [IsF (.slice A n c),StrF [[105,102]],AppF 0,StrF tx,AppF 1,IsF (.pointer (some ⟨L,5,none⟩)),IsF (.slice Ab p.body.length cb),StrF bb,AppF 2,AppF 2];obtain⟨Lf,⟨L0,L1,L2,L3,-⟩,hL⟩:=zbdZ ((sl)) [[[105,102]],tx,bb] (by simp only[tot];(have h1:=H0.o;simp only[ycZ,yhZ,ynZ]at *;omega));refine zfhZ (apps:=[2,4,8]) hstay hB0 hO0 hS0 L0 L3 F9 ?_ ?_
    ·repeat' first | refine OpsOk.cons ?_ ?_ | fail
     ·exact .m F0 (.z 3 9 [8,4,2,0])
     ·exact .x (.o0 H3.o F1)
     ·exact .x (.N0 98 99 H3.o hL F2 L0 L1 F0 F1)
     ·exact .rx F3 (.n 6)
     ·exact .x (.N 100 101 H3.o hL F4 L1 L2 F2 F3 (hm:=H4.o.1))
     ·exact .fl Bx.s F5 (.n 5)
     ·exact .ld Bx.s F6 (.f 103 F5)
     ·exact .x (.C H3.o F7 Tryz.func84 (.f 104 F6) fun w hb=>J2.o w hb)
     ·exact .x (.N 102 105 H3.o hL F8 L2 L3 F4 F7 (hm:=H4.o.2.1))
     ·exact .x (.aa F9 F8 106)
     ·exact .nil
    ·intro uq wq rq hSz hBz hOz hz;simp only[yyZ,fillAct,Act.put,yoZ,yzZ,yAZ,hz];clear F0 F1 F2 F3 F4 F5 F6 F7 F8 F9 hstay hL L0 L1 L2 L3 hz;obtain⟨Ay,ny,cy,rfl⟩:∃A n c,rq=.slice A n c:=(by obtain⟨A,c,e⟩:=hOz.slice;exact⟨A,_,c,e⟩);have Hg:=zh (show RowAt #[.int .i64 ps,.int .i64 4,.string ⟨nm.toArray⟩,.slice At p.t.length ct,.slice (some ⟨gq,offq,none⟩) 1 cx,.slice Ab p.body.length cb,.slice Ae p.els.length ce] L vx tx B W (sl++[[105,102]]++tx++bb) wq _ from⟨hOz,hSz,hBz⟩);clear hOz hBz hSz;obtain⟨x0,x1,x2,x3,x4,x5,x6⟩:=zbZ Hg.o.bes.box;have H1:=zaZ Hg.o.bes.box;by_cases Hm:0<p.els.length
     ·have U5:(0:Int)<((p.els.length:Nat):Int):=by omega
      have H2:=zh (show Sx.stmts SY (l.take (m+1))=sl++[[105,102]]++tx++bb++[[101,108,115,101]]++be by
       rw[Hf.o,Ha.o,(show p.els.isEmpty=false by cases h:p.els with | nil=>rw[h]at Hm;simp at Hm | cons a b=>rfl)]
       simp[yiZ])
      go_upto_region 26 with fail
      clear x0 x1 x2 x3 x4 x5 x6 H1;have hB0:Below B W wq.drew:=Below.drewN Hg.o.b 1;have hO0:OwnS wq.drew B (.slice Ay ny cy) (sl++[[105,102]]++tx++bb):=Hg.o.own;have hS0:BesideS (#[.int .i64 ps,.int .i64 4,.string ⟨nm.toArray⟩,.slice At p.t.length ct,.slice (some ⟨gq,offq,none⟩) 1 cx,.slice Ab p.body.length cb,.slice Ae p.els.length ce]) L vx tx wq.drew (.slice Ay ny cy):=⟨Hg.o.bes.box,Hg.o.bes.ne,Hg.o.bes.row⟩;obtain⟨Fs,⟨F0,F1,F2,F3,F4,F5,F6,F7,-⟩,hstay⟩:=zrZ [IsF (.slice Ay ny cy),StrF [[101,108,115,101]],AppF 0,IsF (.pointer (some ⟨L,6,none⟩)),IsF (.slice Ae p.els.length ce),StrF be,AppF 1,AppF 1];obtain⟨Lf,⟨L0,L1,L2,-⟩,hL⟩:=zbdZ ((sl++[[105,102]]++tx++bb)) [[[101,108,115,101]],be] (by simp only[tot];(have h1:=H0.o;simp only[ycZ,yhZ,ynZ]at *;omega));refine zfhZ (apps:=[2,6]) hstay hB0 hO0 hS0 L0 L2 F7 ?_ ?_
      ·repeat' first | refine OpsOk.cons ?_ ?_ | fail
       ·exact .m F0 (.z 3 7 [6,2,0])
       ·exact .x (.o0 H3.o F1)
       ·exact .x (.N0 111 112 H3.o hL F2 L0 L1 F0 F1)
       ·exact .fl Bx.s F3 (.n 5)
       ·exact .ld Bx.s F4 (.f 114 F3)
       ·exact .x (.C H3.o F5 Tryz.func84 (.f 115 F4) fun w hb=>Jm.o w hb)
       ·exact .x (.N 113 116 H3.o hL F6 L1 L2 F2 F5 (hm:=H4.o.2.2))
       ·exact .x (.aa F7 F6 117)
       ·exact .nil
      ·intro uq2 wq rq hSz hBz hOz hz;simp only[yyZ,fillAct,Act.put,yoZ,yzZ,yAZ,hz];clear F0 F1 F2 F3 F4 F5 F6 F7 hstay hL L0 L1 L2 hz;obtain⟨Az,cz,rfl⟩:=hOz.slice;have J9:=zh hOz;have J5:=zh hBz;clear hOz hBz hSz;go_wp2_with fail;go_roundg (k-(m+1))
       case measure=>have:=HI.o;omega
       case rel=>exact⟨m+1,Az,_,cz,rfl,rfl,by simp,hlt,by rw[H2.o];simpa[yiZ]using J9.o,J5.o⟩
     ·have U5:¬(0:Int)<((p.els.length:Nat):Int):=by omega
      have H2:=zh (show Sx.stmts SY (l.take (m+1))=sl++[[105,102]]++tx++bb by
       rw[Hf.o,Ha.o,(show p.els.isEmpty=true by cases h:p.els with | nil=>rfl | cons a b=>rw[h]at Hm;simp at Hm)]
       simp[yiZ])
      go_wp2_with fail
      go_roundg (k-(m+1))
      case measure=>have:=HI.o;omega
      case rel=>exact⟨m+1,Ay,_,cy,rfl,rfl,by simp,hlt,by rw[H2.o];exact Hg.o.own,Hg.o.b⟩
  ·have Jo:¬(m:Int)<(k:Int):=(by omega);have Hr:l.take m=l:=yjZ (by have:=HK.o;omega);rw[Hr]at HO;go_wp2_with fail;go_ret;rw[HB.o];exact⟨_,rfl,HO.o,Hu.o⟩
theorem zgpZ:∀(n:Nat) (l:List Sx.St),Sx.sizeSs l<n->ListedOk l
 | 0,l,h=>by omega
 | n+1,l,h=>zouZ l fun s hs=>by have:=Sx.sizeS_mem hs;have:=Sx.sizeS_parts s;exact⟨zmeZ (zgpZ n s.body (by omega)),zmeZ (zgpZ n s.els (by omega))⟩
end Go.Proofs.YtdncljdfmdgdaaaGreatDoor
