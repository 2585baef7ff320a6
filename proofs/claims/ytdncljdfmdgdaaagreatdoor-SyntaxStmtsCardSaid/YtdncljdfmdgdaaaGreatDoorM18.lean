/-
  The walk of coilref2.Typed at records and interfaces.
-/
import Derived.Test.YtdncljdfmdgdaaaGreatDoorM17
import Derived.Test.YtdncljdfmdgdaaaGreatDoorM16
import Derived.Test.YtdncljdfmdgdaaaGreatDoorM5
import Derived.Test.YtdncljdfmdgdaaaGreatDoorM9
import Derived.Test.YtdncljdfmdgdaaaGreatDoorM1
import Derived.Test.YtdncljdfmdgdaaaGreatDoorM13
import Derived.Test.YtdncljdfmdgdaaaGreatDoorM4
import Derived.Test.YtdncljdfmdgdaaaGreatDoorM10
import Derived.Deep.RegionHeld3
import Derived.BigRegion
import Derived.Test.YtdncljdfmdgdaaaGreatDoorM7
import Derived.Test.YtdncljdfmdgdaaaGreatDoorM15
set_option linter.unusedSimpArgs false
set_option linter.unusedVariables false
set_option maxRecDepth 100000
set_option maxHeartbeats 16000000
namespace Go.Proofs.YtdncljdfmdgdaaaGreatDoor
open Go.RowKit Go.Shelf
attribute [local go_sem] opWp zoZ zvZ zpZ
theorem zxrZ (n:Nat) (hn:n+1<=1000000) (ih:TypedOk n) (t:Sx.Ty) (hsz0:Sx.size t<=n+1) (hr0:∃d,Sx.rightT NM d t=true) (hkd:t.kind=8) (v:Value) (W:World) (ht:IsTy W v t):TypedIs t v W:=by
 unfold TypedIs;obtain⟨An,cn,Ae,ce,Ap,cp,rfl,hnm,hem,hp⟩:=ht.agg;obtain⟨d,hr⟩:=hr0;obtain⟨d',rfl,hr',hsh⟩:=Sx.right_parts hr;rw[hkd]at hsh ht ⊢;have J6:=Sx.size_parts t;have Ho:Sx.sizeL t.parts<=n:=by omega
 have Jf:=Sx.length_size t.parts;have Hq:t.names.length=t.parts.length:=by simp[Sx.shape]at hsh;omega
 have Hj:=zh Hq;have J1:=zh (show ∀p∈t.parts,p.kind=7 by simp[Sx.shape]at hsh;exact hsh.1);have HT:=zh (show Sx.typ t=[[105,110,116,101,114,102,97,99,101],[123]]++Sx.methods t.names t.parts++[[125]]by rw[Sx.typ_eq,hkd];simp);have Jb:=zh ih;have HR:=zh hr';have Ha:=zh (show Sx.sizeL t.parts<=n/\n+1<=1000000 from⟨Ho,hn⟩);obtain⟨L,hL⟩:=zE (W.heap.size);obtain⟨w2,hw2⟩:=zE (W.alloc (.cells #[.int .i64 8,.string ⟨t.name.toArray⟩,.slice An t.names.length cn,.slice Ae t.embeds.length ce,.slice Ap t.parts.length cp] 26));have H3:w2.heap[L]? =some (.cells #[.int .i64 8,.string ⟨t.name.toArray⟩,.slice An t.names.length cn,.slice Ae t.embeds.length ce,.slice Ap t.parts.length cp] 26 (0,0)):=by rw[<-hw2,<-hL];exact ydZ W _
 have Hr:Below L W w2:=by rw[<-hw2,<-hL];exact(yqZ _ _).alloc (ybZ _) _
 obtain⟨B,hB⟩:=zE (w2.heap.size);have hLB:L<B:=by rw[<-hB];exact zaZ H3
 have H2:=zh (show B<=w2.heap.size by rw[hB];exact ybZ _);have H6:=zh (fun X (h:Below B w2 X)=>(show Below W.heap.size W X by rw[hL];exact Hr.trans (h.mono (yYZ hLB))));have Jd:=zh (show W.heap.size<=B by rw[hL];exact yYZ hLB);have H4:=zh (fun X (h:Below B w2 X)=>(show X.heap[L]? =some (.cells #[.int .i64 8,.string ⟨t.name.toArray⟩,.slice An t.names.length cn,.slice Ae t.embeds.length ce,.slice Ap t.parts.length cp] 26 (0,0))from(h.block L hLB).trans H3));have Je:=zh (show Below B w2 w2 from yqZ _ _);have HP:=zh hp;have Hz:=zh hnm;obtain⟨x0,x1,x2,x3,x4⟩:=zcZ H3;have Ji:=zaZ H3;clear ih hr hr' ht hp hnm hem J6 Ho H3 Hr hsh hkd hsz0 hn Hq;go_enter Tryz.func28, Tryz.ntmps28;obtain⟨k,hk⟩:=zE (t.parts.length);have Jj:(k:Int)<=1000000:=by have:=Ha.o;omega
 have HK:=zh hk;clear Jf;rw[hk]at x4;obtain⟨w3,hw3⟩:=zE (w2.alloc (.cells #[.string ⟨#[105,110,116,101,114,102,97,99,101]⟩,.string ⟨#[123]⟩] 9));have Hm:Below B w2 w3:=by rw[<-hw3];exact Je.o.alloc H2.o _
 have Hs:OwnS w3 B (.slice (some ⟨B,0,none⟩) 2 2) ([[105,110,116,101,114,102,97,99,101],[123]]++Sx.methods (t.names.take 0) (t.parts.take 0)):=by rw[<-hw3];have:=OwnS.arr (B:=B) (l:=[[105,110,116,101,114,102,97,99,101],[123]]) (ydZ w2 (.cells #[.string ⟨#[105,110,116,101,114,102,97,99,101]⟩,.string ⟨#[123]⟩] 9)) rfl (by simp[maxLen]) H2.o;rw[hB]at this;simpa[Sx.fields,Sx.methods]using this
 have J4:=zh Hs;have Jg:=zh Hm;clear Hs Hm hk;go_wp2_with fail;go_loopg [3,4] k (fun i v3 v4 wr=>∃(m:Nat) (A5:Option Addr) (n5 c5:Nat),i=k-m/\v3=.slice A5 n5 c5/\v4=.int .i64 (m:Nat)/\m<=k/\OwnS wr B (.slice A5 n5 c5) ([[105,110,116,101,114,102,97,99,101],[123]]++Sx.methods (t.names.take m) (t.parts.take m))/\Below B w2 wr)
 case atStart=>exact⟨0,some ⟨B,0,none⟩,2,2,rfl,rfl,rfl,yxZ _,J4.o,Jg.o⟩
 case round=>
  obtain⟨m,A5,n5,c5,hi,rfl,rfl,hm,ho,hb⟩:=hrel;have HI:=zh hi;have HO:=zh ho;have Hf:=zh hb;have m0:(0:Int)<=(m:Int):=(by omega);have m1:(m:Int)<=1000000:=(by omega);clear hi ho hb x0 x1 x2 x3 x4;have H1:=H4.o wr Hf.o;rw[HK.o]at H1;obtain⟨x0,x1,x2,x3,x4⟩:=zcZ H1;have J0:=zaZ H1;clear H1;by_cases hlt:m<k
  ·have J9:(m:Int)<(k:Int):=(by omega);have Jl:IntKind.i64.wrap ((m:Int)+1)=(m:Int)+1:=(by rw[yQZ];omega);have Hb:m<t.parts.length:=(by have:=HK.o;omega);have Hn:m<t.names.length:=(by have:=Hj.o;omega);have J8:(m:Int)<(t.names.length:Int):=(by omega);have Hi:=Sx.sizeL_take_le t.parts m;have H9:=Sx.size_mem (yfZ Hb);obtain⟨g,off,An1,cn1,Ae1,ce1,Aq,cq,rfl,hty,hc5⟩:=HP.o.spot m Hb;obtain⟨g1,off1,rfl,hsp1⟩:=Hz.o.spot m Hn;have He:=Sx.methods_take Hj.o Hb;obtain⟨p,hpe⟩:=zE (t.parts[m]'Hb);obtain⟨s,hse⟩:=zE (t.names[m]'Hn);have H8:p∈t.parts:=(by rw[<-hpe];exact yfZ Hb);rw[hpe]at hc5 hty He H9;rw[hse]at hsp1 He;have Hx:=zh hty;have Hh:=zh hc5;have Hp:=zh hsp1;have J7:=zh He;have Hc:=zh H8;have H7:=zh (show([[105,110,116,101,114,102,97,99,101],[123]]++Sx.methods (t.names.take m) (t.parts.take m)).length+([40]::Sx.params 0 p.parts).length<=50000000 by
    have h1:=Sx.methods_len (t.names.take m) (t.parts.take m);have h2:=Sx.params_len 0 p.parts;have h3:=Sx.size_parts p;have h4:=Ha.o;simp only[ycZ,yhZ,ynZ];omega)
   have Hd:=zh (show(∀q∈p.parts,∃d,Sx.rightT NM d q=true)/\0<p.parts.length/\Sx.sizeL p.parts<=n by
    obtain⟨e',he',hq,hs'⟩:=Sx.right_parts (HR.o p Hc.o);refine⟨fun q hq'=>⟨_,hq q hq'⟩,?_,?_⟩
    ·rw[J1.o p Hc.o]at hs';simp[Sx.shape]at hs';omega
    ·have:=Sx.size_parts p;have:=Ha.o;omega)
   clear hty He H8 hpe hse hc5 hsp1 Hi H9;go_wp2_with fail;have hB0:Below B w2 wr.drew:=Hf.o.drew;have hO0:OwnS wr.drew B (.slice A5 n5 c5) ([[105,110,116,101,114,102,97,99,101],[123]]++Sx.methods (t.names.take m) (t.parts.take m)):=HO.o;clear x0 x1 x2 x3 x4 J0;obtain⟨Fs,⟨F0,F1,F2,F3,F4,F5,F6,F7,F8,F9,F10,F11,F12,F13,F14,F15,F16,F17,F18,-⟩,hstay⟩:=zrZ [IsF (.slice A5 n5 c5),IsF (.pointer (some ⟨L,2,none⟩)),IsF (.slice (some ⟨g1,off1,none⟩) t.names.length cn),IsF (.int .i64 (m:Int)),IsF (.pointer (some ⟨g1,off1+m,none⟩)),IsF (.string ⟨s.toArray⟩),StrF [s],AppF 0,IsF (.pointer (some ⟨L,4,none⟩)),IsF (.slice (some ⟨g,off,none⟩) k cp),IsF (.int .i64 (m:Int)),IsF (.pointer (some ⟨g,off+m * 5,none⟩)),IsF (.pointer (some ⟨g,off+m * 5+4,none⟩)),IsF (.slice Aq p.parts.length cq),StrF ([40]::Sx.params 0 p.parts),AppF 1,StrF [[59]],AppF 2,AppF 2];obtain⟨Lf,⟨L0,L1,L2,L3,-⟩,hL⟩:=zbdZ (([[105,110,116,101,114,102,97,99,101],[123]]++Sx.methods (t.names.take m) (t.parts.take m))) [[s],([40]::Sx.params 0 p.parts),[[59]]] (by simp only[tot];(have h1:=H7.o;simp only[ycZ,yhZ,ynZ]at *;omega));refine zbbZ (apps:=[7,15,17]) hstay hB0 hO0 L0 L3 F18 ?_ ?_
   ·repeat' first | refine OpsOk.cons ?_ ?_ | fail
    ·exact .m F0 (.z 3 18 [17,15,7,0])
    ·refine OpOk.val rfl rfl F1 RowM.rf fun ρ w r k E hI K hK=>?_;have e1:ρ (.tmp 1)=.pointer (some ⟨L,0,none⟩):=E.n 1 (by kernel_rfl);obtain⟨x0,x1,x2,x3,x4⟩:=zcZ (H4.o w hI.1);rw[HK.o]at x4;have Hg:=zaZ (H4.o w hI.1);go_simp;exact hK
    ·refine OpOk.val rfl rfl F2 RowM.rf fun ρ w r k E hI K hK=>?_;have e50:=E.e 50 1 (by kernel_rfl) F1;obtain⟨x0,x1,x2,x3,x4⟩:=zcZ (H4.o w hI.1);rw[HK.o]at x4;have Hg:=zaZ (H4.o w hI.1);go_simp;exact hK
    ·exact .m F3 (.n 4)
    ·refine OpOk.val rfl rfl F4 RowM.rf fun ρ w r k E hI K hK=>?_;have e51:=E.e 51 2 (by kernel_rfl) F2;have e52:=E.e 52 3 (by kernel_rfl) F3;obtain⟨q0,q1⟩:=Hp.o w (H6.o w hI.1);go_simp;exact hK
    ·refine OpOk.val rfl rfl F5 RowM.rf fun ρ w r k E hI K hK=>?_;have e53:=E.e 53 4 (by kernel_rfl) F4;obtain⟨q0,q1⟩:=Hp.o w (H6.o w hI.1);go_simp;exact hK
    ·exact .o1 H2.o F6 (.f 54 F5)
    ·exact .N0 49 55 H2.o hL F7 L0 L1 F0 F6
    ·refine OpOk.val rfl rfl F8 RowM.rf fun ρ w r k E hI K hK=>?_;have e1:ρ (.tmp 1)=.pointer (some ⟨L,0,none⟩):=E.n 1 (by kernel_rfl);obtain⟨x0,x1,x2,x3,x4⟩:=zcZ (H4.o w hI.1);rw[HK.o]at x4;have Hg:=zaZ (H4.o w hI.1);go_simp;exact hK
    ·refine OpOk.val rfl rfl F9 RowM.rf fun ρ w r k E hI K hK=>?_;have e57:=E.e 57 8 (by kernel_rfl) F8;obtain⟨x0,x1,x2,x3,x4⟩:=zcZ (H4.o w hI.1);rw[HK.o]at x4;have Hg:=zaZ (H4.o w hI.1);go_simp;exact hK
    ·exact .m F10 (.n 4)
    ·refine OpOk.val rfl rfl F11 RowM.rf fun ρ w r k E hI K hK=>?_;have e58:=E.e 58 9 (by kernel_rfl) F9;have e59:=E.e 59 10 (by kernel_rfl) F10;have H0:=Hh.o w (H6.o w hI.1);have hg:=H0.1;have c0:=H0.2.1;have c1:=H0.2.2.1;have c2:=H0.2.2.2.1;have c3:=H0.2.2.2.2.1;have c4:=H0.2.2.2.2.2;clear H0;go_simp;exact hK
    ·refine OpOk.val rfl rfl F12 RowM.rf fun ρ w r k E hI K hK=>?_;have e60:=E.e 60 11 (by kernel_rfl) F11;have H0:=Hh.o w (H6.o w hI.1);have hg:=H0.1;have c0:=H0.2.1;have c1:=H0.2.2.1;have c2:=H0.2.2.2.1;have c3:=H0.2.2.2.2.1;have c4:=H0.2.2.2.2.2;clear H0;go_simp;exact hK
    ·refine OpOk.val rfl rfl F13 RowM.rf fun ρ w r k E hI K hK=>?_;have e61:=E.e 61 12 (by kernel_rfl) F12;have H0:=Hh.o w (H6.o w hI.1);have hg:=H0.1;have c0:=H0.2.1;have c1:=H0.2.2.1;have c2:=H0.2.2.2.1;have c3:=H0.2.2.2.2.1;have c4:=H0.2.2.2.2.2;clear H0;go_simp;exact hK
    ·exact .C H2.o F14 Tryz.func69 (.f 62 F13) fun w hb=>znsZ n (by have:=Ha.o;omega) Jb.o p.parts Hd.o.2.1 Hd.o.2.2 Hd.o.1 (fun q hq=>by obtain⟨d,hd⟩:=Hd.o.1 q hq;exact Sx.typ_pos hd) _ w (IsTy.row (IsTy.below (H6.o w hb) _ _ Hx.o))
    ·exact .N 56 63 H2.o hL F15 L1 L2 F7 F14 (hm:=by simp)
    ·exact .o0 H2.o F16
    ·exact .N 64 65 H2.o hL F17 L2 L3 F15 F16
    ·exact .aa F18 F17 66
    ·exact .nil
   ·intro uq wq rq hBz hOz hz;simp only[yyZ,fillAct,Act.put,yoZ,yzZ,yAZ,hz];clear F0 F1 F2 F3 F4 F5 F6 F7 F8 F9 F10 F11 F12 F13 F14 F15 F16 F17 F18 hstay hL L0 L1 L2 L3 hz;obtain⟨A9,c9,rfl⟩:=hOz.slice;have Jc:=zh hOz;have J3:=zh hBz;clear hOz hBz;go_wp2_with fail;go_roundg (k-(m+1))
    case measure=>have:=HI.o;omega
    case rel=>exact⟨m+1,A9,_,c9,rfl,rfl,by simp,hlt,by rw[J7.o];simpa[yiZ,Sx.sig_eq]using Jc.o,J3.o⟩
  ·have J9:¬(m:Int)<(k:Int):=(by omega);have H5:Sx.methods (t.names.take m) (t.parts.take m)=Sx.methods t.names t.parts:=(by rw[yjZ (show t.names.length<=m by have:=HK.o;have:=Hj.o;omega),yjZ (show t.parts.length<=m by have:=HK.o;omega)]);have J5:=zh H5;have H7:=zh (show([[105,110,116,101,114,102,97,99,101],[123]]++Sx.methods (t.names.take m) (t.parts.take m)).length<=50000000 by
    have h1:=Sx.methods_len (t.names.take m) (t.parts.take m);have h2:=Sx.sizeL_take_le t.parts m;have h4:=Ha.o;simp only[ycZ,yhZ,ynZ];omega)
   clear H5;obtain⟨wa,hwa⟩:=zE (wr.alloc (.cells #[.string ⟨#[125]⟩] 9));have Hw:OwnS wa B (.slice A5 n5 c5) ([[105,110,116,101,114,102,97,99,101],[123]]++Sx.methods (t.names.take m) (t.parts.take m)):=(by rw[<-hwa];exact HO.o.below ((yqZ _ _).alloc (ybZ _) _));have Hv:Below B w2 wa:=(by rw[<-hwa];exact Hf.o.alloc (ymZ H2.o Hf.o.size) _);have Hl:Str wa (.slice (some ⟨wr.heap.size,0,none⟩) 1 1) [[125]] (.slice A5 n5 c5):=(by rw[<-hwa];exact Str.one (ydZ wr _) (fun q hq=>(HO.o.lt q hq).2));have Ht:=zh Hw;have Hk:=zh Hv;have Hy:=zh Hl;clear Hw Hv Hl;go_wp2_with (at_builtin;refine zlZ rfl _ _ rfl rfl rfl Ht.o Hy.o (by decide) (by have:=H7.o;simp only[ycZ,yhZ,ynZ]at *;omega) (ymZ H2.o Hk.o.size) ?_;intro r5 w5 hO5 Hu;have hB5:=zyZ Hk.o (ymZ H2.o Hk.o.size) Hu (fun g hg=>(Ht.o.lt g hg).1);have J2:=zh hO5;have Ja:=zh hB5;clear hO5 hB5 Hu);go_ret;subst hL;exact⟨_,rfl,by rw[HT.o,<-J5.o];exact J2.o.base_le Jd.o,H6.o _ Ja.o⟩
theorem zxsZ (n:Nat) (hn:n+1<=1000000) (ih:TypedOk n) (t:Sx.Ty) (hsz0:Sx.size t<=n+1) (hr0:∃d,Sx.rightT NM d t=true) (hkd:t.kind=6) (v:Value) (W:World) (ht:IsTy W v t):TypedIs t v W:=by
 unfold TypedIs;obtain⟨An,cn,Ae,ce,Ap,cp,rfl,hnm,hem,hp⟩:=ht.agg;obtain⟨d,hr⟩:=hr0;obtain⟨d',rfl,hr',hsh⟩:=Sx.right_parts hr;rw[hkd]at hsh ht ⊢;have Jc:=Sx.size_parts t;have J3:Sx.sizeL t.parts<=n:=by omega
 have Jk:=Sx.length_size t.parts;have J4:t.names.length=t.parts.length:=by simp[Sx.shape]at hsh;omega
 have Hx:=zh J4;have Hz:t.embeds.length=t.parts.length:=by simp[Sx.shape]at hsh;omega
 have Ht:=zh Hz;have HT:=zh (show Sx.typ t=[[123]]++Sx.fields t.names t.embeds t.parts++[[125]]by rw[Sx.typ_eq,hkd];simp);have J6:=zh ih;have HR:=zh hr';have Hr:=zh (show Sx.sizeL t.parts<=n/\n+1<=1000000 from⟨J3,hn⟩);obtain⟨L,hL⟩:=zE (W.heap.size);obtain⟨w2,hw2⟩:=zE (W.alloc (.cells #[.int .i64 6,.string ⟨t.name.toArray⟩,.slice An t.names.length cn,.slice Ae t.embeds.length ce,.slice Ap t.parts.length cp] 26));have H5:w2.heap[L]? =some (.cells #[.int .i64 6,.string ⟨t.name.toArray⟩,.slice An t.names.length cn,.slice Ae t.embeds.length ce,.slice Ap t.parts.length cp] 26 (0,0)):=by rw[<-hw2,<-hL];exact ydZ W _
 have J5:Below L W w2:=by rw[<-hw2,<-hL];exact(yqZ _ _).alloc (ybZ _) _
 obtain⟨B,hB⟩:=zE (w2.heap.size);have hLB:L<B:=by rw[<-hB];exact zaZ H5
 have H1:=zh (show B<=w2.heap.size by rw[hB];exact ybZ _);have H4:=zh (fun X (h:Below B w2 X)=>(show Below W.heap.size W X by rw[hL];exact J5.trans (h.mono (yYZ hLB))));have Jh:=zh (show W.heap.size<=B by rw[hL];exact yYZ hLB);have H2:=zh (fun X (h:Below B w2 X)=>(show X.heap[L]? =some (.cells #[.int .i64 6,.string ⟨t.name.toArray⟩,.slice An t.names.length cn,.slice Ae t.embeds.length ce,.slice Ap t.parts.length cp] 26 (0,0))from(h.block L hLB).trans H5));have Jj:=zh (show Below B w2 w2 from yqZ _ _);have HP:=zh hp;have J9:=zh hnm;have Jf:=zh hem;obtain⟨x0,x1,x2,x3,x4⟩:=zcZ H5;have Jm:=zaZ H5;clear ih hr hr' ht hp hnm hem Jc J3 H5 J5 hsh hkd hsz0 hn J4 Hz;go_enter Tryz.func28, Tryz.ntmps28;obtain⟨k,hk⟩:=zE (t.parts.length);have Jn:(k:Int)<=1000000:=by have:=Hr.o;omega
 have HK:=zh hk;clear Jk;rw[hk]at x4;obtain⟨w3,hw3⟩:=zE (w2.alloc (.cells #[.string ⟨#[123]⟩] 9));have J0:Below B w2 w3:=by rw[<-hw3];exact Jj.o.alloc H1.o _
 have J7:OwnS w3 B (.slice (some ⟨B,0,none⟩) 1 1) ([[123]]++Sx.fields (t.names.take 0) (t.embeds.take 0) (t.parts.take 0)):=by rw[<-hw3];have:=OwnS.arr (B:=B) (l:=[[123]]) (ydZ w2 (.cells #[.string ⟨#[123]⟩] 9)) rfl (by simp[maxLen]) H1.o;rw[hB]at this;simpa[Sx.fields,Sx.methods]using this
 have Ja:=zh J7;have Jl:=zh J0;clear J7 J0 hk;go_wp2_with fail;go_loopg [5,6] k (fun i v3 v4 wr=>∃(m:Nat) (A5:Option Addr) (n5 c5:Nat),i=k-m/\v3=.slice A5 n5 c5/\v4=.int .i64 (m:Nat)/\m<=k/\OwnS wr B (.slice A5 n5 c5) ([[123]]++Sx.fields (t.names.take m) (t.embeds.take m) (t.parts.take m))/\Below B w2 wr)
 case atStart=>exact⟨0,some ⟨B,0,none⟩,1,1,rfl,rfl,rfl,yxZ _,Ja.o,Jl.o⟩
 case round=>
  obtain⟨m,A5,n5,c5,hi,rfl,rfl,hm,ho,hb⟩:=hrel;have HI:=zh hi;have HO:=zh ho;have H9:=zh hb;have m0:(0:Int)<=(m:Int):=(by omega);have m1:(m:Int)<=1000000:=(by omega);clear hi ho hb x0 x1 x2 x3 x4;have H3:=H2.o wr H9.o;rw[HK.o]at H3;obtain⟨x0,x1,x2,x3,x4⟩:=zcZ H3;have Hn:=zaZ H3;clear H3;by_cases hlt:m<k
  ·have Je:(m:Int)<(k:Int):=(by omega);have Jp:IntKind.i64.wrap ((m:Int)+1)=(m:Int)+1:=(by rw[yQZ];omega);have Hh:m<t.parts.length:=(by have:=HK.o;omega);have J2:m<t.names.length:=(by have:=Hx.o;omega);have Jd:(m:Int)<(t.names.length:Int):=(by omega);have J8:m<t.embeds.length:=(by have:=Ht.o;omega);have Ji:(m:Int)<(t.embeds.length:Int):=(by omega);have Hv:=Sx.sizeL_take_le t.parts m;have Hf:=Sx.size_mem (yfZ Hh);obtain⟨g,off,An1,cn1,Ae1,ce1,Aq,cq,rfl,hty,hc5⟩:=HP.o.spot m Hh;obtain⟨g1,off1,rfl,hsp1⟩:=J9.o.spot m J2;obtain⟨g2,off2,rfl,hsp2⟩:=Jf.o.spot m J8;have He:=Sx.fields_take Hx.o Ht.o Hh;obtain⟨p,hpe⟩:=zE (t.parts[m]'Hh);obtain⟨s,hse⟩:=zE (t.names[m]'J2);have Hd:p∈t.parts:=(by rw[<-hpe];exact yfZ Hh);rw[hpe]at hc5 hty He Hf;rw[hse]at hsp1 He;obtain⟨e,hee⟩:=zE (t.embeds[m]'J8);rw[hee]at hsp2 He;have Jg:=zh hsp2;have Hy:=zh hty;have Hp:=zh hc5;have Hq:=zh hsp1;have J1:=zh He;have Hm:=zh Hd;have H6:=zh (show([[123]]++Sx.fields (t.names.take m) (t.embeds.take m) (t.parts.take m)).length+(Sx.typ p).length<=50000000 by
    have h1:=Sx.fields_len (t.names.take m) (t.embeds.take m) (t.parts.take m);have h2:=Sx.typ_len p;have h4:=Hr.o;simp only[ycZ,yhZ,ynZ];omega)
   have Hb:=zh (show Sx.size p<=n/\(∃d,Sx.rightT NM d p=true)/\0<(Sx.typ p).length from⟨by have:=Hr.o;omega,⟨_,HR.o p Hm.o⟩,Sx.typ_pos (HR.o p Hm.o)⟩);clear hty He Hd hpe hse hc5 hsp1 Hv Hf hee hsp2;obtain⟨z0,z1⟩:=Jg.o wr (H4.o wr H9.o)
   cases e with
   | true=>
    obtain⟨wa,hwa⟩:=zE (wr.alloc (.cells #[.string ⟨#[101,109,98,101,100]⟩] 9));have Hl:OwnS wa B (.slice A5 n5 c5) ([[123]]++Sx.fields (t.names.take m) (t.embeds.take m) (t.parts.take m)):=(by rw[<-hwa];exact HO.o.below ((yqZ _ _).alloc (ybZ _) _));have Hk:Below B w2 wa:=(by rw[<-hwa];exact H9.o.alloc (ymZ H1.o H9.o.size) _);have Hc:Str wa (.slice (some ⟨wr.heap.size,0,none⟩) 1 1) [[101,109,98,101,100]] (.slice A5 n5 c5):=(by rw[<-hwa];exact Str.one (ydZ wr _) (fun q hq=>(HO.o.lt q hq).2));have Hi:=zh Hl;have Ha:=zh Hk;have Hs:=zh Hc;clear Hl Hk Hc;go_wp2_with (at_builtin;refine zlZ rfl _ _ rfl rfl rfl Hi.o Hs.o (by decide) (by have:=H6.o;simp only[ycZ,yhZ,ynZ]at *;omega) (ymZ H1.o Ha.o.size) ?_;intro r5 w5 hO5 Hj;have hB5:=zyZ Ha.o (ymZ H1.o Ha.o.size) Hj (fun g hg=>(Hi.o.lt g hg).1);have Ho:=zh hO5;have Hg:=zh hB5;clear hO5 hB5 Hj x0 x1 x2 x3 x4 Hn z0 z1;obtain⟨x0,x1,x2,x3,x4⟩:=zcZ (H2.o w5 Hg.o);rw[HK.o]at x4;have Hn:=zaZ (H2.o w5 Hg.o));obtain⟨A6,c6,rfl⟩:=Ho.o.slice;have hB0:Below B w2 w5.drew:=Hg.o.drew;have hO0:OwnS w5.drew B (.slice A6 (([[123]]++Sx.fields (t.names.take m) (t.embeds.take m) (t.parts.take m))++[[101,109,98,101,100]]).length c6) (([[123]]++Sx.fields (t.names.take m) (t.embeds.take m) (t.parts.take m))++[[101,109,98,101,100]]):=Ho.o;clear x0 x1 x2 x3 x4 Hn;obtain⟨Fs,⟨F0,F1,F2,F3,F4,F5,F6,F7,F8,F9,F10,F11,F12,F13,F14,F15,F16,F17,-⟩,hstay⟩:=zrZ [IsF (.slice A6 (([[123]]++Sx.fields (t.names.take m) (t.embeds.take m) (t.parts.take m))++[[101,109,98,101,100]]).length c6),IsF (.pointer (some ⟨L,2,none⟩)),IsF (.slice (some ⟨g1,off1,none⟩) t.names.length cn),IsF (.int .i64 (m:Int)),IsF (.pointer (some ⟨g1,off1+m,none⟩)),IsF (.string ⟨s.toArray⟩),StrF [s],AppF 0,IsF (.pointer (some ⟨L,4,none⟩)),IsF (.slice (some ⟨g,off,none⟩) k cp),IsF (.int .i64 (m:Int)),IsF (.pointer (some ⟨g,off+m * 5,none⟩)),IsF (.agg #[.int .i64 p.kind,.string ⟨p.name.toArray⟩,.slice An1 p.names.length cn1,.slice Ae1 p.embeds.length ce1,.slice Aq p.parts.length cq]),StrF (Sx.typ p),AppF 1,StrF [[59]],AppF 2,AppF 2];obtain⟨Lf,⟨L0,L1,L2,L3,-⟩,hL⟩:=zbdZ ((([[123]]++Sx.fields (t.names.take m) (t.embeds.take m) (t.parts.take m))++[[101,109,98,101,100]])) [[s],(Sx.typ p),[[59]]] (by simp only[tot];(have h1:=H6.o;simp only[ycZ,yhZ,ynZ]at *;omega));refine zbbZ (apps:=[7,14,16]) hstay hB0 hO0 L0 L3 F17 ?_ ?_
    ·repeat' first | refine OpsOk.cons ?_ ?_ | fail
     ·exact .m F0 (.z 5 17 [16,14,7,0])
     ·refine OpOk.val rfl rfl F1 RowM.rf fun ρ w r k E hI K hK=>?_;have e1:ρ (.tmp 1)=.pointer (some ⟨L,0,none⟩):=E.n 1 (by kernel_rfl);obtain⟨x0,x1,x2,x3,x4⟩:=zcZ (H2.o w hI.1);rw[HK.o]at x4;have H8:=zaZ (H2.o w hI.1);go_simp;exact hK
     ·refine OpOk.val rfl rfl F2 RowM.rf fun ρ w r k E hI K hK=>?_;have e87:=E.e 87 1 (by kernel_rfl) F1;obtain⟨x0,x1,x2,x3,x4⟩:=zcZ (H2.o w hI.1);rw[HK.o]at x4;have H8:=zaZ (H2.o w hI.1);go_simp;exact hK
     ·exact .m F3 (.n 6)
     ·refine OpOk.val rfl rfl F4 RowM.rf fun ρ w r k E hI K hK=>?_;have e88:=E.e 88 2 (by kernel_rfl) F2;have e89:=E.e 89 3 (by kernel_rfl) F3;obtain⟨q0,q1⟩:=Hq.o w (H4.o w hI.1);go_simp;exact hK
     ·refine OpOk.val rfl rfl F5 RowM.rf fun ρ w r k E hI K hK=>?_;have e90:=E.e 90 4 (by kernel_rfl) F4;obtain⟨q0,q1⟩:=Hq.o w (H4.o w hI.1);go_simp;exact hK
     ·exact .o1 H1.o F6 (.f 91 F5)
     ·exact .N0 86 92 H1.o hL F7 L0 L1 F0 F6
     ·refine OpOk.val rfl rfl F8 RowM.rf fun ρ w r k E hI K hK=>?_;have e1:ρ (.tmp 1)=.pointer (some ⟨L,0,none⟩):=E.n 1 (by kernel_rfl);obtain⟨x0,x1,x2,x3,x4⟩:=zcZ (H2.o w hI.1);rw[HK.o]at x4;have H8:=zaZ (H2.o w hI.1);go_simp;exact hK
     ·refine OpOk.val rfl rfl F9 RowM.rf fun ρ w r k E hI K hK=>?_;have e94:=E.e 94 8 (by kernel_rfl) F8;obtain⟨x0,x1,x2,x3,x4⟩:=zcZ (H2.o w hI.1);rw[HK.o]at x4;have H8:=zaZ (H2.o w hI.1);go_simp;exact hK
     ·exact .m F10 (.n 6)
     ·refine OpOk.val rfl rfl F11 RowM.rf fun ρ w r k E hI K hK=>?_;have e95:=E.e 95 9 (by kernel_rfl) F9;have e96:=E.e 96 10 (by kernel_rfl) F10;have H0:=Hp.o w (H4.o w hI.1);have hg:=H0.1;have c0:=H0.2.1;have c1:=H0.2.2.1;have c2:=H0.2.2.2.1;have c3:=H0.2.2.2.2.1;have c4:=H0.2.2.2.2.2;clear H0;go_simp;exact hK
     ·refine OpOk.val rfl rfl F12 RowM.rf fun ρ w r k E hI K hK=>?_;have e97:=E.e 97 11 (by kernel_rfl) F11;have H0:=Hp.o w (H4.o w hI.1);have hg:=H0.1;have c0:=H0.2.1;have c1:=H0.2.2.1;have c2:=H0.2.2.2.1;have c3:=H0.2.2.2.2.1;have c4:=H0.2.2.2.2.2;clear H0;go_simp;exact hK
     ·exact .C H1.o F13 Tryz.func28 (.f 98 F12) fun w hb=>J6.o p Hb.o.1 Hb.o.2.1 _ w (IsTy.below (H4.o w hb) _ _ Hy.o)
     ·exact .N 93 99 H1.o hL F14 L1 L2 F7 F13 (hm:=Hb.o.2.2)
     ·exact .o0 H1.o F15
     ·exact .N 100 101 H1.o hL F16 L2 L3 F14 F15
     ·exact .aa F17 F16 102
     ·exact .nil
    ·intro uq wq rq hBz hOz hz;simp only[yyZ,fillAct,Act.put,yoZ,yzZ,yAZ,hz];clear F0 F1 F2 F3 F4 F5 F6 F7 F8 F9 F10 F11 F12 F13 F14 F15 F16 F17 hstay hL L0 L1 L2 L3 hz;obtain⟨A9,c9,rfl⟩:=hOz.slice;have Hw:=zh hOz;have Hu:=zh hBz;clear hOz hBz;go_wp2_with fail;go_roundg (k-(m+1))
     case measure=>have:=HI.o;omega
     case rel=>exact⟨m+1,A9,_,c9,rfl,rfl,by simp,hlt,by rw[J1.o];simpa[yiZ]using Hw.o,Hu.o⟩
   | false=>
    go_wp2_with fail
    clear z0 z1;have hB0:Below B w2 wr.drew:=H9.o.drew;have hO0:OwnS wr.drew B (.slice A5 n5 c5) ([[123]]++Sx.fields (t.names.take m) (t.embeds.take m) (t.parts.take m)):=HO.o;clear x0 x1 x2 x3 x4 Hn;obtain⟨Fs,⟨F0,F1,F2,F3,F4,F5,F6,F7,F8,F9,F10,F11,F12,F13,F14,F15,F16,F17,-⟩,hstay⟩:=zrZ [IsF (.slice A5 n5 c5),IsF (.pointer (some ⟨L,2,none⟩)),IsF (.slice (some ⟨g1,off1,none⟩) t.names.length cn),IsF (.int .i64 (m:Int)),IsF (.pointer (some ⟨g1,off1+m,none⟩)),IsF (.string ⟨s.toArray⟩),StrF [s],AppF 0,IsF (.pointer (some ⟨L,4,none⟩)),IsF (.slice (some ⟨g,off,none⟩) k cp),IsF (.int .i64 (m:Int)),IsF (.pointer (some ⟨g,off+m * 5,none⟩)),IsF (.agg #[.int .i64 p.kind,.string ⟨p.name.toArray⟩,.slice An1 p.names.length cn1,.slice Ae1 p.embeds.length ce1,.slice Aq p.parts.length cq]),StrF (Sx.typ p),AppF 1,StrF [[59]],AppF 2,AppF 2];obtain⟨Lf,⟨L0,L1,L2,L3,-⟩,hL⟩:=zbdZ (([[123]]++Sx.fields (t.names.take m) (t.embeds.take m) (t.parts.take m))) [[s],(Sx.typ p),[[59]]] (by simp only[tot];(have h1:=H6.o;simp only[ycZ,yhZ,ynZ]at *;omega));refine zbbZ (apps:=[7,14,16]) hstay hB0 hO0 L0 L3 F17 ?_ ?_
    ·repeat' first | refine OpsOk.cons ?_ ?_ | fail
     ·exact .m F0 (.z 5 17 [16,14,7,0])
     ·refine OpOk.val rfl rfl F1 RowM.rf fun ρ w r k E hI K hK=>?_;have e1:ρ (.tmp 1)=.pointer (some ⟨L,0,none⟩):=E.n 1 (by kernel_rfl);obtain⟨x0,x1,x2,x3,x4⟩:=zcZ (H2.o w hI.1);rw[HK.o]at x4;have H8:=zaZ (H2.o w hI.1);go_simp;exact hK
     ·refine OpOk.val rfl rfl F2 RowM.rf fun ρ w r k E hI K hK=>?_;have e87:=E.e 87 1 (by kernel_rfl) F1;obtain⟨x0,x1,x2,x3,x4⟩:=zcZ (H2.o w hI.1);rw[HK.o]at x4;have H8:=zaZ (H2.o w hI.1);go_simp;exact hK
     ·exact .m F3 (.n 6)
     ·refine OpOk.val rfl rfl F4 RowM.rf fun ρ w r k E hI K hK=>?_;have e88:=E.e 88 2 (by kernel_rfl) F2;have e89:=E.e 89 3 (by kernel_rfl) F3;obtain⟨q0,q1⟩:=Hq.o w (H4.o w hI.1);go_simp;exact hK
     ·refine OpOk.val rfl rfl F5 RowM.rf fun ρ w r k E hI K hK=>?_;have e90:=E.e 90 4 (by kernel_rfl) F4;obtain⟨q0,q1⟩:=Hq.o w (H4.o w hI.1);go_simp;exact hK
     ·exact .o1 H1.o F6 (.f 91 F5)
     ·exact .N0 86 92 H1.o hL F7 L0 L1 F0 F6
     ·refine OpOk.val rfl rfl F8 RowM.rf fun ρ w r k E hI K hK=>?_;have e1:ρ (.tmp 1)=.pointer (some ⟨L,0,none⟩):=E.n 1 (by kernel_rfl);obtain⟨x0,x1,x2,x3,x4⟩:=zcZ (H2.o w hI.1);rw[HK.o]at x4;have H8:=zaZ (H2.o w hI.1);go_simp;exact hK
     ·refine OpOk.val rfl rfl F9 RowM.rf fun ρ w r k E hI K hK=>?_;have e94:=E.e 94 8 (by kernel_rfl) F8;obtain⟨x0,x1,x2,x3,x4⟩:=zcZ (H2.o w hI.1);rw[HK.o]at x4;have H8:=zaZ (H2.o w hI.1);go_simp;exact hK
     ·exact .m F10 (.n 6)
     ·refine OpOk.val rfl rfl F11 RowM.rf fun ρ w r k E hI K hK=>?_;have e95:=E.e 95 9 (by kernel_rfl) F9;have e96:=E.e 96 10 (by kernel_rfl) F10;have H0:=Hp.o w (H4.o w hI.1);have hg:=H0.1;have c0:=H0.2.1;have c1:=H0.2.2.1;have c2:=H0.2.2.2.1;have c3:=H0.2.2.2.2.1;have c4:=H0.2.2.2.2.2;clear H0;go_simp;exact hK
     ·refine OpOk.val rfl rfl F12 RowM.rf fun ρ w r k E hI K hK=>?_;have e97:=E.e 97 11 (by kernel_rfl) F11;have H0:=Hp.o w (H4.o w hI.1);have hg:=H0.1;have c0:=H0.2.1;have c1:=H0.2.2.1;have c2:=H0.2.2.2.1;have c3:=H0.2.2.2.2.1;have c4:=H0.2.2.2.2.2;clear H0;go_simp;exact hK
     ·exact .C H1.o F13 Tryz.func28 (.f 98 F12) fun w hb=>J6.o p Hb.o.1 Hb.o.2.1 _ w (IsTy.below (H4.o w hb) _ _ Hy.o)
     ·exact .N 93 99 H1.o hL F14 L1 L2 F7 F13 (hm:=Hb.o.2.2)
     ·exact .o0 H1.o F15
     ·exact .N 100 101 H1.o hL F16 L2 L3 F14 F15
     ·exact .aa F17 F16 102
     ·exact .nil
    ·intro uq wq rq hBz hOz hz;simp only[yyZ,fillAct,Act.put,yoZ,yzZ,yAZ,hz];clear F0 F1 F2 F3 F4 F5 F6 F7 F8 F9 F10 F11 F12 F13 F14 F15 F16 F17 hstay hL L0 L1 L2 L3 hz;obtain⟨A9,c9,rfl⟩:=hOz.slice;have Hw:=zh hOz;have Hu:=zh hBz;clear hOz hBz;go_wp2_with fail;go_roundg (k-(m+1))
     case measure=>have:=HI.o;omega
     case rel=>exact⟨m+1,A9,_,c9,rfl,rfl,by simp,hlt,by rw[J1.o];simpa[yiZ]using Hw.o,Hu.o⟩
  ·have Je:¬(m:Int)<(k:Int):=(by omega);have H7:Sx.fields (t.names.take m) (t.embeds.take m) (t.parts.take m)=Sx.fields t.names t.embeds t.parts:=(by rw[yjZ (show t.names.length<=m by have:=HK.o;have:=Hx.o;omega),yjZ (show t.embeds.length<=m by have:=HK.o;have:=Ht.o;omega),yjZ (show t.parts.length<=m by have:=HK.o;omega)]);have Jb:=zh H7;have H6:=zh (show([[123]]++Sx.fields (t.names.take m) (t.embeds.take m) (t.parts.take m)).length<=50000000 by
    have h1:=Sx.fields_len (t.names.take m) (t.embeds.take m) (t.parts.take m);have h2:=Sx.sizeL_take_le t.parts m;have h4:=Hr.o;simp only[ycZ,yhZ,ynZ];omega)
   clear H7;obtain⟨wa,hwa⟩:=zE (wr.alloc (.cells #[.string ⟨#[125]⟩] 9));have Hl:OwnS wa B (.slice A5 n5 c5) ([[123]]++Sx.fields (t.names.take m) (t.embeds.take m) (t.parts.take m)):=(by rw[<-hwa];exact HO.o.below ((yqZ _ _).alloc (ybZ _) _));have Hk:Below B w2 wa:=(by rw[<-hwa];exact H9.o.alloc (ymZ H1.o H9.o.size) _);have Hc:Str wa (.slice (some ⟨wr.heap.size,0,none⟩) 1 1) [[125]] (.slice A5 n5 c5):=(by rw[<-hwa];exact Str.one (ydZ wr _) (fun q hq=>(HO.o.lt q hq).2));have Hi:=zh Hl;have Ha:=zh Hk;have Hs:=zh Hc;clear Hl Hk Hc;go_wp2_with (at_builtin;refine zlZ rfl _ _ rfl rfl rfl Hi.o Hs.o (by decide) (by have:=H6.o;simp only[ycZ,yhZ,ynZ]at *;omega) (ymZ H1.o Ha.o.size) ?_;intro r5 w5 hO5 Hj;have hB5:=zyZ Ha.o (ymZ H1.o Ha.o.size) Hj (fun g hg=>(Hi.o.lt g hg).1);have Ho:=zh hO5;have Hg:=zh hB5;clear hO5 hB5 Hj);go_ret;subst hL;exact⟨_,rfl,by rw[HT.o,<-Jb.o];exact Ho.o.base_le Jh.o,H4.o _ Hg.o⟩
theorem zhsZ:∀n:Nat,n<=1000000->TypedOk n:=by
 intro n
 induction n with
 | zero=>intro _ t h;have:=Sx.size_pos t;omega
 | succ n ih=>
  intro hn t H0 hr v W ht;have ih:=ih (by omega);obtain⟨d,hd⟩:=id hr;obtain⟨d',-,-,hsh⟩:=Sx.right_parts hd;rcases Sx.shape_kind hsh with hk | hk | hk | hk | hk | hk | hk | hk
  ·exact zxlZ n hn ih t H0 hr hk v W ht
  ·exact zxmZ n hn ih t H0 hr hk v W ht
  ·exact zxnZ n hn ih t H0 hr hk v W ht
  ·exact zxoZ n hn ih t H0 hr hk v W ht
  ·exact zxpZ n hn ih t H0 hr hk v W ht
  ·exact zxsZ n hn ih t H0 hr hk v W ht
  ·exact zxqZ n hn ih t H0 hr hk v W ht
  ·exact zxrZ n hn ih t H0 hr hk v W ht
structure Boxed (W:World) (cs:Array Value) (L B:Nat) (w2:World):Prop where
 box:w2.heap[L]? =some (.cells cs 39 (0,0))
 bb:B<=w2.heap.size
 be:w2.heap.size=B
 wx:∀X,Below B w2 X->Below W.heap.size W X
 gx:∀X,Below B w2 X->GL X/\NG<=X.heap.size
 wb:W.heap.size<=B
 bx:∀X,Below B w2 X->X.heap[L]? =some (.cells cs 39 (0,0))
 r2:Below B w2 w2
 o1:∀s:Lx.Bytes,OwnS (w2.alloc (.cells #[.string ⟨s.toArray⟩] 9)) B (.slice (some ⟨B,0,none⟩) 1 1) [s]
theorem boxed {W:World} (hG:GL W) (hN:NG<=W.heap.size) (cs:Array Value):∃L B w2,W.heap.size=L/\W.alloc (.cells cs 39)=w2/\w2.heap.size=B/\Hid (Boxed W cs L B w2):=by
 refine⟨_,_,_,rfl,rfl,rfl,?_⟩;obtain⟨w2,hw2⟩:=zE (W.alloc (.cells cs 39));rw[hw2];have H0:w2.heap[W.heap.size]? =some (.cells cs 39 (0,0)):=by rw[<-hw2];exact ydZ W _
 have H2:Below W.heap.size W w2:=by rw[<-hw2];exact(yqZ _ _).alloc (ybZ _) _
 have hLB:=zaZ H0;have H1:∀X,Below w2.heap.size w2 X->Below W.heap.size W X:=fun X h=>H2.trans (h.mono (yYZ hLB));exact⟨H0,ybZ _,rfl,H1,fun X h=>⟨hG.below (H1 X h),ymZ hN (H1 X h).size⟩,yYZ hLB,fun X h=>(h.block _ hLB).trans H0,yqZ _ _,fun s=>OwnS.one (ydZ w2 _) (ybZ _)⟩
section
variable {ops:Array Oper} {Q:Exit->Act->World->Prop} {a:Act} {apps:List Nat} {Fs:List (Value->World->Value->Nat->Prop)} {i:Nat} {o:Oper} {B:Nat} {W:World} {R0:Value} {Ls:Nat->List Lx.Bytes} {W0:World} {cs:Array Value} {L:Nat}
end
end Go.Proofs.YtdncljdfmdgdaaaGreatDoor
namespace Go.Proofs.YtdncljdfmdgdaaaGreatDoor
open Go.RowKit
theorem zcfZ (b:UInt8) (w:World):Calls Tryz.prog 164 #[.int .u8 (b.toNat:Int)] w fun e w'=>e=.returned (.bool (Lx.small b))/\w=w':=by
 go_enter Tryz.func164, Tryz.ntmps164
 go_wp2
 all_goals
  go_ret;refine⟨zbfZ ?_,rfl⟩;rw[yEZ];simp[Lx.small];omega
theorem zbpZ (b:UInt8) (w:World):Calls Tryz.prog 165 #[.int .u8 (b.toNat:Int)] w fun e w'=>e=.returned (.bool (Lx.great b))/\w=w':=by
 go_enter Tryz.func165, Tryz.ntmps165
 go_wp2
 all_goals
  go_ret;refine⟨zbfZ ?_,rfl⟩;rw[yEZ];simp[Lx.great];omega
theorem zbvZ (b:UInt8) (w:World):Calls Tryz.prog 166 #[.int .u8 (b.toNat:Int)] w fun e w'=>e=.returned (.bool (Lx.digit b))/\w=w':=by
 go_enter Tryz.func166, Tryz.ntmps166
 go_wp2
 all_goals
  go_ret;refine⟨zbfZ ?_,rfl⟩;rw[yEZ];simp[Lx.digit];omega
theorem zntZ (b:UInt8) (w:World):Calls Tryz.prog 123 #[.int .u8 (b.toNat:Int)] w fun e w'=>e=.returned (.bool (Lx.saidB b))/\w=w':=by
 go_enter Tryz.func123, Tryz.ntmps123
 go_wp2
 all_goals
  go_ret;refine⟨zbfZ ?_,rfl⟩;rw[yEZ];simp[Lx.saidB];omega
def plainB (c:UInt8):Bool:=decide (32<=c.toNat)&&(decide (c.toNat<=126)&&(!(c.toNat==34)&&!(c.toNat==92)))
theorem ztpZ (b:UInt8) (w:World):Calls Tryz.prog 182 #[.int .u8 (b.toNat:Int)] w fun e w'=>e=.returned (.bool (plainB b))/\w=w':=by
 go_enter Tryz.func182, Tryz.ntmps182
 go_wp2
 all_goals
  go_ret;refine⟨zbfZ ?_,rfl⟩;rw[yEZ];simp[plainB];omega
theorem zhtZ (b:UInt8) (w:World):Calls Tryz.prog 180 #[.int .u8 (b.toNat:Int)] w fun e w'=>e=.returned (.bool (Lx.within b))/\w=w':=by
 go_enter Tryz.func180, Tryz.ntmps180
 cases hs:Lx.small b <;> cases hg:Lx.great b <;> cases hd:Lx.digit b
 all_goals
  have HW:=zh (show Lx.within b=((Lx.small b||Lx.great b)||Lx.digit b||b.toNat==95)from rfl);rw[hs,hg,hd]at HW;go_wp2_with (first
   | (go_at_call 164;refine(zcfZ _ _).mono ?_;rw[hs];rintro e w' ⟨rfl,rfl⟩)
   | (go_at_call 165;refine(zbpZ _ _).mono ?_;rw[hg];rintro e w' ⟨rfl,rfl⟩)
   | (go_at_call 166;refine(zbvZ _ _).mono ?_;rw[hd];rintro e w' ⟨rfl,rfl⟩))
  go_ret;refine⟨zbfZ ?_,rfl⟩;rw[HW.o]
  first | rfl | (rw[yEZ];simp;try omega)
theorem u8f (c:UInt8) (n:Nat) (h:¬c.toNat=n):((c.toNat:Int)==(n:Int))=false:=by simp;omega
theorem u8t (c:UInt8) (n:Nat) (h:c.toNat=n):((c.toNat:Int)==(n:Int))=true:=by simp[h]
theorem znuZ (s:ByteArray) (k:Nat) (w:World) (hk:k<=s.size) (hs:s.size<=140737488351232) :
  Calls Tryz.prog 150 #[.string s,.int .i64 (k:Int)] w fun e w'=>e=.returned (.int .i64 (skipAt s k:Nat))/\w'=w:=by
 have He:(s.size:Int)<=140737488351232:=by omega
 go_enter Tryz.func150, Tryz.ntmps150
 go_wp2
 go_loopg [1] (s.size-k) (fun n v wr=>∃m:Nat,n=s.size-m/\v=.int .i64 (m:Int)/\m<=s.size/\Lx.skip false (s.data.toList.drop m)=Lx.skip false (s.data.toList.drop k)/\wr=w)
 case atStart=>exact⟨k,rfl,rfl,hk,rfl,rfl⟩
 case round=>
  obtain⟨m,hn,rfl,hm,he,rfl⟩:=hrel;obtain⟨g0,hg0⟩:∃g0,g0=gk:=⟨_,rfl⟩;have HE:=zh he;have HN:Hid (g0=s.size-m):=(by rw[hg0];exact hn);subst hg0;clear he hn;have Hb:(0:Int)<=(m:Int):=(by omega);by_cases hlt:m<s.size
  ·have hi:(m:Int)<(s.size:Int):=(by omega);have HD:=zh (zkZ s m hlt);obtain⟨c,hc⟩:=zE (s[m]'hlt);rw[hc]at HD;have H0:Lx.blank c=true->Lx.skip false (s.data.toList.drop (m+1))=Lx.skip false (s.data.toList.drop k):=fun h=>(by have e:=HE.o;rw[HD.o,Lx.skip_blank h]at e;exact e);by_cases h9:c.toNat=9
   ·have b9:((c.toNat:Int)==9)=true:=u8t c 9 h9;have HB:=zh (H0 (by simp[Lx.blank,h9]));clear H0 h9;go_wp2;go_roundg (s.size-(m+1))
    case measure=>have:=HN.o;omega
    case rel=>exact⟨m+1,rfl,by simp,hlt,HB.o,rfl⟩
   ·have b9:((c.toNat:Int)==9)=false:=u8f c 9 h9;by_cases h10:c.toNat=10
    ·have b10:((c.toNat:Int)==10)=true:=u8t c 10 h10;have HB:=zh (H0 (by simp[Lx.blank,h10]));clear H0 h9 h10;go_wp2;go_roundg (s.size-(m+1))
     case measure=>have:=HN.o;omega
     case rel=>exact⟨m+1,rfl,by simp,hlt,HB.o,rfl⟩
    ·have b10:((c.toNat:Int)==10)=false:=u8f c 10 h10;by_cases h13:c.toNat=13
     ·have b13:((c.toNat:Int)==13)=true:=u8t c 13 h13;have HB:=zh (H0 (by simp[Lx.blank,h13]));clear H0 h9 h10 h13;go_wp2;go_roundg (s.size-(m+1))
      case measure=>have:=HN.o;omega
      case rel=>exact⟨m+1,rfl,by simp,hlt,HB.o,rfl⟩
     ·have b13:((c.toNat:Int)==13)=false:=u8f c 13 h13;by_cases h32:c.toNat=32
      ·have b32:((c.toNat:Int)==32)=true:=u8t c 32 h32;have HB:=zh (H0 (by simp[Lx.blank,h32]));clear H0 h9 h10 h13 h32;go_wp2;go_roundg (s.size-(m+1))
       case measure=>have:=HN.o;omega
       case rel=>exact⟨m+1,rfl,by simp,hlt,HB.o,rfl⟩
      ·have b32:((c.toNat:Int)==32)=false:=u8f c 32 h32;have H2:Lx.blank c=false:=(by simp[Lx.blank,h9,h10,h13,h32]);have H1:¬(c.toNat=47/\(s.data.toList.drop (m+1)).head? =some 47)->skipAt s k=m:=fun h=>(by have e:=HE.o;rw[HD.o,Lx.skip_stays H2 h,<-HD.o]at e;exact zjmZ e.symm hm);by_cases h47:c.toNat=47
       ·have n47:((c.toNat:Int) != 47)=false:=(by simp[h47]);by_cases hend:m+1=s.size
        ·have be:((m:Int)+1==(s.size:Int))=true:=(by simp;omega);have HS:=zh (H1 (by
          rintro⟨_,h⟩;rw[yNZ (by rw[zhZ];omega)]at h;cases h))
         clear H0 H1 h9 h10 h13 h32 H2 h47 hend;go_wp2;go_ret;rw[HS.o];exact⟨rfl,rfl⟩
        ·have be:((m:Int)+1==(s.size:Int))=false:=(by simp;omega);have H3:m+1<s.size:=(by omega);have Hd:(m:Int)+1<(s.size:Int):=(by omega);have Hf:(0:Int)<=(m:Int)+1:=(by omega);have H5:=zh (zkZ s (m+1) H3);obtain⟨d,hd⟩:=zE (s[m+1]'H3);rw[hd]at H5;by_cases d47:d.toNat=47
         ·have nd:((d.toNat:Int) != 47)=false:=(by simp[d47]);have H7:d=47:=ybbZ.1 d47;have HR:=zh (show Lx.skip true (s.data.toList.drop m)=Lx.skip false (s.data.toList.drop k)by
           have e:=HE.o;rw[HD.o,Lx.skip_remark H2 h47 (by rw[H5.o,H7];rfl)]at e;rw[HD.o,Lx.skip_within (by omega)];exact e)
          have Ha:=zh h47;have HC:=zh hc;clear H0 H1 h9 h10 h13 h32 H2 h47 hend d47 H7;go_wp2;go_loopg [1] (s.size-m) (fun n v wq=>∃p:Nat,n=s.size-p/\v=.int .i64 (p:Int)/\m<=p/\p<=s.size/\Lx.skip true (s.data.toList.drop p)=Lx.skip false (s.data.toList.drop k)/\wq=wr)
          case atStart=>exact⟨m,rfl,rfl,ybZ _,hm,HR.o,rfl⟩
          case round=>
           obtain⟨p,hn2,rfl,hmp,hp,he2,rfl⟩:=hrel;have H6:=zh he2;have H9:=zh hn2;clear he2 hn2;have Hg:(0:Int)<=(p:Int):=(by omega);by_cases hlp:p<s.size
           ·have H8:(p:Int)<(s.size:Int):=(by omega);have H4:=zh (zkZ s p hlp);obtain⟨x,hx⟩:=zE (s[p]'hlp);rw[hx]at H4;by_cases x10:x.toNat=10
            ·have nx:((x.toNat:Int) != 10)=false:=(by simp[x10]);have Hc:m<p:=by
              rcases Nat.lt_or_ge m p with h | h
              ·exact h
              ·exfalso;have:p=m:=(by omega);subst this;have e1:=HC.o;rw[hx]at e1;have e2:=Ha.o;rw[<-e1]at e2;omega
             have HB:=zh (show Lx.skip false (s.data.toList.drop p)=Lx.skip false (s.data.toList.drop k)by
              have e:=H6.o;rw[H4.o,Lx.skip_out x10,<-H4.o]at e;exact e)
             clear x10;go_wp2;go_roundg (s.size-p)
             case measure=>have:=HN.o;omega
             case rel=>exact⟨p,rfl,rfl,hp,HB.o,rfl⟩
            ·have nx:((x.toNat:Int) != 10)=true:=(by simp;omega);have HB:=zh (show Lx.skip true (s.data.toList.drop (p+1))=Lx.skip false (s.data.toList.drop k)by
              have e:=H6.o;rw[H4.o,Lx.skip_within x10]at e;exact e)
             clear x10;go_wp2;go_roundg (s.size-(p+1))
             case measure=>have:=H9.o;omega
             case rel=>exact⟨p+1,rfl,by simp,by omega,hlp,HB.o,rfl⟩
           ·have H8:¬(p:Int)<(s.size:Int):=(by omega);have HB:=zh (show Lx.skip false (s.data.toList.drop p)=Lx.skip false (s.data.toList.drop k)by
             have e:=H6.o;rw[yNZ (by rw[zhZ];omega)]at e ⊢;rw[Lx.skip_end]at e ⊢;exact e)
            go_wp2
            go_roundg (s.size-p)
            case measure=>have:=HN.o;omega
            case rel=>exact⟨p,rfl,rfl,hp,HB.o,rfl⟩
         ·have nd:((d.toNat:Int) != 47)=true:=(by simp;omega);have HS:=zh (H1 (by
           rintro⟨_,h⟩;rw[H5.o]at h;injection h with h;subst h;exact d47 rfl))
          clear H0 H1 h9 h10 h13 h32 H2 h47 hend d47;go_wp2;go_ret;rw[HS.o];exact⟨rfl,rfl⟩
       ·have n47:((c.toNat:Int) != 47)=true:=(by simp;omega);have HS:=zh (H1 (fun h=>h47 h.1));clear H0 H1 h9 h10 h13 h32 H2 h47;go_wp2;go_ret;rw[HS.o];exact⟨rfl,rfl⟩
  ·have hi:¬(m:Int)<(s.size:Int):=(by omega);have HS:=zh (show skipAt s k=m from zjmZ (by
    rw[<-HE.o,yNZ (by rw[zhZ];omega)];exact Lx.skip_end _) hm)
   go_wp2
   go_ret;rw[HS.o];exact⟨rfl,rfl⟩
theorem zvzZ {c:UInt8} (h:c.toNat=10):Lx.esc c=[92,110]:=by simp[Lx.esc,h]
theorem ztqZ {c:UInt8} (h:¬c.toNat=10) (h2:c.toNat=34\/c.toNat=92):Lx.esc c=[92,c]:=by
 simp only[Lx.esc,ytZ,h,yXZ,yKZ,h2,ycbZ]
theorem zqrZ {c:UInt8} (h:¬c.toNat=10) (h2:¬(c.toNat=34\/c.toNat=92)):Lx.esc c=[c]:=by
 simp only[Lx.esc,ytZ,h,yXZ,yKZ,h2]
theorem zorZ {s:ByteArray} {m:Nat} (hlt:m<s.size) {l:Lx.Bytes} (hl:l=34::Lx.quoteIn (s.data.toList.take m)):34::Lx.quoteIn (s.data.toList.take (m+1))=l++Lx.esc (s[m]'hlt):=by
 rw[zexZ s m hlt,Lx.quoteIn_append,hl];have e:Lx.quoteIn [s[m]'hlt]=Lx.esc (s[m]'hlt):=by rw[Lx.quoteIn_cons];simp[Lx.quoteIn]
 rw[e];rfl
theorem zcvZ (a b:ByteArray):(a++b).data.toList=a.data.toList++b.data.toList:=by rw[ByteArray.data_append];simp
theorem zosZ {s A:ByteArray} {m:Nat} (hm:m<=s.size) (hA:A.data.toList=34::Lx.quoteIn (s.data.toList.take m)):A.size<=2 * m+1:=by
 rw[<-zhZ,hA,yhZ];have:=Lx.quoteIn_len (s.data.toList.take m);rw[yUZ,zhZ]at this;omega
theorem zhuZ (s:ByteArray) (w:World) (hs:s.size<=4000000) :
  Calls Tryz.prog 77 #[.string s] w fun e w'=>e=.returned (.string ⟨(Lx.quote s.data.toList).toArray⟩)/\w'=w:=by
 have H2:(s.size:Int)<=4000000:=by omega
 go_enter Tryz.func77, Tryz.ntmps77
 go_wp2
 go_loopg [3,4] (s.size) (fun n v u wr=>∃(m:Nat) (A:ByteArray),n=s.size-m/\v=.string A/\u=.int .i64 (m:Int)/\m<=s.size/\A.data.toList=34::Lx.quoteIn (s.data.toList.take m)/\wr=w)
 case atStart=>exact⟨0,⟨#[34]⟩,rfl,rfl,rfl,yxZ _,by simp[Lx.quoteIn],rfl⟩
 case round=>
  obtain⟨m,A,hn,rfl,rfl,hm,hA,rfl⟩:=hrel;have HN:=zh hn;have HA:=zh hA;have hAs:=zosZ hm hA;have hAi:(A.size:Int)<=8000001:=(by omega);clear hn hA hAs;have H1:(0:Int)<=(m:Int):=(by omega);have H3:(m:Int)<=4000000:=(by omega);by_cases hlt:m<s.size
  ·have hi:(m:Int)<(s.size:Int):=(by omega);have H4:(m:Int)+1<=(s.size:Int):=(by omega);have HE:=zh (zorZ hlt HA.o);obtain⟨B,hB⟩:∃B:ByteArray,s.extract m (m+1)=B:=⟨_,rfl⟩;have hBd:B.data.toList=[s[m]'hlt]:=(by rw[<-hB,zbsZ,zkZ s m hlt,show m+1-m=1 by omega];rfl);have hBs:(B.size:Int)=1:=(by rw[<-zhZ,hBd];rfl);have H0:=zh hBd;clear hBd;by_cases h10:(s[m]'hlt).toNat=10
   ·have b10:=u8t _ 10 h10;have HF:=zh (HE.o.trans (by rw[zvzZ h10]));clear h10;go_wp2;go_roundg (s.size-(m+1))
    case measure=>have:=HN.o;omega
    case rel=>exact⟨m+1,_,rfl,rfl,by simp,hlt,by rw[zcvZ,HF.o,HA.o],rfl⟩
   ·have b10:=u8f _ 10 h10;by_cases hq:(s[m]'hlt).toNat=34\/(s[m]'hlt).toNat=92
    ·have HF:=zh (HE.o.trans (by rw[ztqZ h10 hq]));by_cases h34:(s[m]'hlt).toNat=34
     ·have b34:=u8t _ 34 h34;clear h10 hq h34;go_wp2;go_roundg (s.size-(m+1))
      case measure=>have:=HN.o;omega
      case rel=>exact⟨m+1,_,rfl,rfl,by simp,hlt,by rw[zcvZ,zcvZ,HF.o,HA.o,H0.o];simp,rfl⟩
     ·have b34:=u8f _ 34 h34;have b92:=u8t _ 92 (by omega:(s[m]'hlt).toNat=92);clear h10 hq h34;go_wp2;go_roundg (s.size-(m+1))
      case measure=>have:=HN.o;omega
      case rel=>exact⟨m+1,_,rfl,rfl,by simp,hlt,by rw[zcvZ,zcvZ,HF.o,HA.o,H0.o];simp,rfl⟩
    ·have HF:=zh (HE.o.trans (by rw[zqrZ h10 hq]));have b34:=u8f _ 34 (by omega:¬(s[m]'hlt).toNat=34);have b92:=u8f _ 92 (by omega:¬(s[m]'hlt).toNat=92);clear h10 hq;go_wp2;go_roundg (s.size-(m+1))
     case measure=>have:=HN.o;omega
     case rel=>exact⟨m+1,_,rfl,rfl,by simp,hlt,by rw[zcvZ,HF.o,HA.o,H0.o],rfl⟩
  ·have hi:¬(m:Int)<(s.size:Int):=(by omega);have HQ:=zh (show(A++⟨#[34]⟩:ByteArray)=⟨(Lx.quote s.data.toList).toArray⟩by
    apply ByteArray.ext;rw[ByteArray.data_append];apply Array.toList_inj.1;rw[Array.toList_append,HA.o,yjZ (by rw[zhZ];omega)];rfl)
   go_wp2
   go_ret;rw[HQ.o];exact⟨rfl,rfl⟩
end Go.Proofs.YtdncljdfmdgdaaaGreatDoor
namespace Go.Proofs.YtdncljdfmdgdaaaGreatDoor
open Go.RowKit Go.Shelf
theorem zgoZ (k:Int) (w:World) (h1:1<=k) (h2:k<=21) :
  Calls Tryz.prog 80 #[.int .i64 k] w fun e w'=>e=.returned (.int .i64 (Sx.level k:Nat))/\w=w':=by
 have hk:k=1\/k=2\/k=3\/k=4\/k=5\/k=6\/k=7\/k=8\/k=9\/k=10\/k=11\/k=12\/k=13\/k=14\/k=15\/k=16\/k=17\/k=18\/k=19\/k=20\/k=21:=by omega
 clear h1 h2;rcases hk with rfl | rfl | rfl | rfl | rfl | rfl | rfl | rfl | rfl | rfl | rfl | rfl | rfl | rfl | rfl | rfl | rfl | rfl | rfl | rfl | rfl
 all_goals
  go_enter Tryz.func80, Tryz.ntmps80
  go_wp2
  go_ret;exact⟨rfl,rfl⟩
theorem zlzZ (k:Int) (w:World) (h1:15<=k) (h2:k<=21) :
  Calls Tryz.prog 81 #[.int .i64 k] w fun e w'=>e=.returned (.string ⟨(Sx.sign k).toArray⟩)/\w=w':=by
 have hk:k=15\/k=16\/k=17\/k=18\/k=19\/k=20\/k=21:=by omega
 clear h1 h2;rcases hk with rfl | rfl | rfl | rfl | rfl | rfl | rfl
 all_goals
  go_enter Tryz.func81, Tryz.ntmps81
  go_wp2
  go_ret;exact⟨rfl,rfl⟩
theorem zqsZ (k:Int) (w:World) (h1:1<=k) (h2:k<=21) :
  Calls Tryz.prog 75 #[.int .i64 k] w fun e w'=>e=.returned (.bool (Sx.flat k))/\w=w':=by
 have hk:k=1\/k=2\/k=3\/k=4\/k=5\/k=6\/k=7\/k=8\/k=9\/k=10\/k=11\/k=12\/k=13\/k=14\/k=15\/k=16\/k=17\/k=18\/k=19\/k=20\/k=21:=by omega
 clear h1 h2;rcases hk with rfl | rfl | rfl | rfl | rfl | rfl | rfl | rfl | rfl | rfl | rfl | rfl | rfl | rfl | rfl | rfl | rfl | rfl | rfl | rfl | rfl
 all_goals
  go_enter Tryz.func75, Tryz.ntmps75
  go_wp2
  go_ret;exact⟨rfl,rfl⟩
theorem zmaZ (W:World) (c:UInt8):(convert 98 9 (.slice (some ⟨W.heap.size,0,none⟩) 1 1)).run Tryz.prog (W.alloc (.cells #[.int .u8 (c.toNat:Int)] 5))=.ok (.string ⟨#[c]⟩) (W.alloc (.cells #[.int .u8 (c.toNat:Int)] 5)):=
 zdpZ (zwuZ W W.heap.size c (ybZ _))
theorem zwaZ {X W:World} {c:UInt8} (h:LW (X.alloc (.cells #[.int .u8 (c.toNat:Int)] 5)).drew W):(convert 98 9 (.slice (some ⟨X.heap.size,0,none⟩) 1 1)).run Tryz.prog W=.ok (.string ⟨#[c]⟩) W:=by
 refine zdpZ (base:=X.heap.size) (l:=[c]) ⟨rfl,.inr ⟨X.heap.size,1,#[.int .u8 (c.toNat:Int)],rfl,ybZ _,?_,ybZ _,by unfold maxLen;omega,rfl,rfl⟩⟩;exact(h.b.block _ (by show X.heap.size<(X.alloc _).heap.size;simp)).trans (ydZ X _)
theorem zjwZ:∀(n:Nat) (w:World),n<=9223372036854775807->GL w->NG<=w.heap.size->
  Calls Tryz.prog 76 #[.int .i64 n] w fun e w'=>e=.returned (.string ⟨(Lib.decDigits n).toArray⟩)/\LW w w':=by
 intro n
 induction n using Nat.strongRecOn with
 | _ n ih=>
  intro w hn hG hN;have H0:=LW.refl hG hN;by_cases hlt:n<10
  ·have hi:(n:Int)<10:=(by omega);have hd:Lib.decDigits n=[UInt8.ofNat (48+n)]:=Lib.decDigits_one hlt;obtain⟨c,hc⟩:∃c:UInt8,UInt8.ofNat (48+n)=c:=⟨_,rfl⟩;have H5:(48:Int)+(n:Int)=(c.toNat:Int):=(by rw[<-hc,UInt8.toNat_ofNat'];omega);rw[hd,hc];have H9:=fun W=>zmaZ W c;clear hd hc ih;go_enter Tryz.func76, Tryz.ntmps76;go_wp2;go_ret;exact⟨rfl,H0.alloc _⟩
  ·have hi:¬(n:Int)<10:=(by omega);have hd:=Lx.decDigits_step n (by omega);obtain⟨c,hc⟩:∃c:UInt8,UInt8.ofNat (48+n % 10)=c:=⟨_,rfl⟩;have H5:(48:Int)+(n:Int) % 10=(c.toNat:Int):=(by rw[<-hc,UInt8.toNat_ofNat'];omega);have H8:(n:Int).tmod 10=(n:Int) % 10:=(by rw[Int.tmod_eq_emod_of_nonneg (by omega)]);have He:c.toNat<256:=c.toNat_lt;have Hc:IntKind.i64.wrap (c.toNat:Int)=(c.toNat:Int):=(by rw[yQZ];omega);have Ha:IntKind.u8.wrap (c.toNat:Int)=(c.toNat:Int):=(by rw[IntKind.wrap_u8];omega);have H3:(Lib.decDigits (n / 10)).length<=20:=(by rw[Lib.decDigits_length];have:=nD_le 19 (n / 10) (by omega);omega);have H1:∀W,LW w W->Calls Tryz.prog 76 #[.int .i64 ((n / 10:Nat):Int)] W fun e W'=>e=.returned (.string ⟨(Lib.decDigits (n / 10)).toArray⟩)/\LW W W':=fun W h=>ih (n / 10) (by omega) W (by omega) h.g h.n;obtain⟨B,hB⟩:∃B:ByteArray,(⟨(Lib.decDigits (n / 10)).toArray⟩:ByteArray)=B:=⟨_,rfl⟩;have hBs:(B.size:Int)<=20:=(by rw[<-hB];show(((Lib.decDigits (n / 10)).length:Nat):Int)<=20;omega);have H2:(⟨(Lib.decDigits n).toArray⟩:ByteArray)=B++⟨#[c]⟩:=(by rw[hd,hc,<-hB];apply ByteArray.ext;rw[ByteArray.data_append];simp);rw[H2];rw[hB]at H1;have H9:=fun W=>zmaZ W c;obtain⟨k,hk⟩:=zE (n / 10);have Hd:IntKind.i64.wrap ((n:Int) / 10)=(k:Int):=(by rw[yQZ];omega);rw[hk]at H1;clear hk;clear hd hc ih H3 hB H2;go_enter Tryz.func76, Tryz.ntmps76;go_wp2;have H4:(convert 98 9 (.slice (some ⟨w.heap.size,0,none⟩) 1 1)).run Tryz.prog (w.alloc (.cells #[.int .u8 (c.toNat:Int)] 5)).drew=.ok (.string ⟨#[c]⟩) (w.alloc (.cells #[.int .u8 (c.toNat:Int)] 5)).drew:=zmaZ w.drew c;have HD:LW w w.drew:=H0.drewN 1;have HA:LW w (w.alloc (.cells #[.int .u8 (c.toNat:Int)] 5)).drew:=HD.alloc _;have H6:=H1 _ HD;have H7:=H1 _ HA;clear H1
   go_region_with (first
    | (go_at_call 76;with_reducible refine H6.mono ?_;rintro e W5 ⟨rfl,h5⟩;have h6:=HD.trans h5)
    | (go_at_call 76;with_reducible refine H7.mono ?_;rintro e W5 ⟨rfl,h5⟩;have h6:=HA.trans h5;have Hb:=zwaZ (X:=w) h5))
   all_goals
    go_wp2
    go_ret;exact⟨rfl,by first | exact h6 | exact h6.alloc _⟩
end Go.Proofs.YtdncljdfmdgdaaaGreatDoor
namespace Go.Proofs.YtdncljdfmdgdaaaGreatDoor
mutual
def Sx.fitsX:Sx.Ex->Prop
 | .mk _ _ _ s t ns ps=>s.length<=140737488351232/\ns.length<=140737488351232/\(∀s∈ns,s.length<=140737488351232)/\t.length<=140737488351232/\Sx.fitsL t/\ps.length<=140737488351232/\Sx.fitsXs ps
def Sx.fitsXs:List Sx.Ex->Prop
 | []=>True
 | t::l=>Sx.fitsX t/\Sx.fitsXs l
end
theorem Sx.fitsXs_mem:∀ {l:List Sx.Ex} {t:Sx.Ex},Sx.fitsXs l->t∈l->Sx.fitsX t
 | u::l,t,h,hm=>by
  rw[Sx.fitsXs]at h;rcases yTZ.1 hm with rfl | hm
  ·exact h.1
  ·exact Sx.fitsXs_mem h.2 hm
theorem Sx.fitsXs_of:∀ {l:List Sx.Ex},(∀t∈l,Sx.fitsX t)->Sx.fitsXs l
 | [],h=>by rw[Sx.fitsXs];trivial
 | t::l,h=>by rw[Sx.fitsXs];exact⟨h t ysZ,Sx.fitsXs_of fun u hu=>h u (ywZ _ hu)⟩
theorem Sx.fitsX_parts {t:Sx.Ex} (h:Sx.fitsX t):t.s.length<=140737488351232/\t.names.length<=140737488351232/\(∀s∈t.names,s.length<=140737488351232)/\t.t.length<=140737488351232/\(∀p∈t.t,Sx.fits p)/\t.parts.length<=140737488351232/\∀p∈t.parts,Sx.fitsX p:=by
 cases t;rw[Sx.fitsX]at h;obtain⟨a,b,c,d,e,f,g⟩:=h;exact⟨a,b,c,d,fun p hp=>Sx.fitsL_mem e hp,f,fun p hp=>Sx.fitsXs_mem g hp⟩
mutual
def Sx.fitsS:Sx.St->Prop
 | .mk _ _ nm t x b e=>nm.length<=140737488351232/\t.length<=140737488351232/\Sx.fitsL t/\x.length<=140737488351232/\Sx.fitsXs x/\(b.length<=140737488351232/\Sx.fitsSs b)/\(e.length<=140737488351232/\Sx.fitsSs e)
def Sx.fitsSs:List Sx.St->Prop
 | []=>True
 | t::l=>Sx.fitsS t/\Sx.fitsSs l
end
theorem Sx.fitsSs_mem:∀ {l:List Sx.St} {t:Sx.St},Sx.fitsSs l->t∈l->Sx.fitsS t
 | u::l,t,h,hm=>by
  rw[Sx.fitsSs]at h;rcases yTZ.1 hm with rfl | hm
  ·exact h.1
  ·exact Sx.fitsSs_mem h.2 hm
theorem Sx.fitsSs_of:∀ {l:List Sx.St},(∀t∈l,Sx.fitsS t)->Sx.fitsSs l
 | [],h=>by rw[Sx.fitsSs];trivial
 | t::l,h=>by rw[Sx.fitsSs];exact⟨h t ysZ,Sx.fitsSs_of fun u hu=>h u (ywZ _ hu)⟩
theorem Sx.fitsS_parts {t:Sx.St} (h:Sx.fitsS t):t.name.length<=140737488351232/\t.t.length<=140737488351232/\(∀p∈t.t,Sx.fits p)/\t.x.length<=140737488351232/\(∀p∈t.x,Sx.fitsX p)/\(t.body.length<=140737488351232/\Sx.fitsSs t.body)/\(t.els.length<=140737488351232/\Sx.fitsSs t.els):=by
 cases t;rw[Sx.fitsS]at h;obtain⟨a,b,c,d,e,f,g⟩:=h;exact⟨a,b,fun p hp=>Sx.fitsL_mem c hp,d,fun p hp=>Sx.fitsXs_mem e hp,f,g⟩
theorem Sx.sizeXs_append:∀(l m:List Sx.Ex),Sx.sizeXs (l++m)=Sx.sizeXs l+Sx.sizeXs m
 | [],m=>by simp[Sx.sizeXs]
 | t::l,m=>by rw[yHZ,Sx.sizeXs,Sx.sizeXs,Sx.sizeXs_append l m];omega
theorem Sx.sizeX_take {l:List Sx.Ex} {m:Nat} (h:m<l.length):Sx.sizeXs (l.take (m+1))=Sx.sizeXs (l.take m)+Sx.sizeX l[m]:=by
 rw[ykZ h,Sx.sizeXs_append];simp[Sx.sizeXs]
theorem Sx.sizeSs_append:∀(l m:List Sx.St),Sx.sizeSs (l++m)=Sx.sizeSs l+Sx.sizeSs m
 | [],m=>by simp[Sx.sizeSs]
 | t::l,m=>by rw[yHZ,Sx.sizeSs,Sx.sizeSs,Sx.sizeSs_append l m];omega
theorem Sx.sizeS_take {l:List Sx.St} {m:Nat} (h:m<l.length):Sx.sizeSs (l.take (m+1))=Sx.sizeSs (l.take m)+Sx.sizeS l[m]:=by
 rw[ykZ h,Sx.sizeSs_append];simp[Sx.sizeSs]
end Go.Proofs.YtdncljdfmdgdaaaGreatDoor
namespace Go.Proofs.YtdncljdfmdgdaaaGreatDoor
open Go.RowKit Go.Shelf
attribute [local go_sem] opWp zoZ zvZ zpZ
def ToldIs (x:Sx.Ex) (v:Value) (W:World):Prop:=Calls Tryz.prog 34 #[v] W fun e W'=>∃u,e=.returned u/\OwnS W' W.heap.size u (Sx.expr SY x)/\Below W.heap.size W W'
def ToldOk (n:Nat):Prop:=∀(x:Sx.Ex),Sx.sizeX x<=n->Sx.okX x->Sx.numX x->∀(v:Value) (W:World),GL W->NG<=W.heap.size->IsEx W v x->ToldIs x v W
theorem Sx.sizeXs_take_le (l:List Sx.Ex) (m:Nat):Sx.sizeXs (l.take m)<=Sx.sizeXs l:=by
 have h:=Sx.sizeXs_append (l.take m) (l.drop m);rw[ydbZ]at h;omega
theorem zbiZ {α:Type} {l m:List α} (h:0<m.length):0<(l++m).length:=by rw[ycZ];omega
theorem zhvZ {α:Type} {l m:List α} (h:0<l.length):0<(l++m).length:=by rw[ycZ];omega
theorem zbjZ {α:Type} {c:Prop} [Decidable c] {l m:List α} (h:c->0<l.length) (k:¬c->0<m.length):0<(if c then l else m).length:=by
 split
 ·exact h ‹_›
 ·exact k ‹_›
theorem Sx.expr_pos {x:Sx.Ex} (h:Sx.okX x):0<(Sx.expr SY x).length:=by
 rw[Sx.expr_eq];refine zbjZ (fun _=>yVZ _) fun _=>zbjZ (fun _=>yVZ _) fun _=>zbjZ (fun _=>yVZ _) fun _=>zbjZ (fun _=>yVZ _) fun _=>zbjZ (fun _=>yVZ _) fun _=>zbjZ (fun _=>yVZ _) fun _=>
  zbjZ (fun _=>zbiZ (yVZ _)) fun _=>zbjZ (fun _=>zbiZ (yVZ _)) fun _=>zbjZ (fun _=>zhvZ (zbiZ (yVZ _))) fun _=>zbjZ (fun h11=>zbiZ ?_) fun _=>zbjZ (fun _=>zhvZ (zbiZ (yVZ _))) fun _=>zbjZ (fun _=>yVZ _) fun _=>zhvZ (zbiZ (yVZ _))
 have hs:=h.shape.1;unfold Sx.shapeX at hs;simp only[ygZ]at hs;have h5:=hs.2.2.2.2;rw[h11]at h5;simp at h5;have hl:0<x.parts.length:=by omega
 rw[Sx.args_tail hl];unfold Sx.listed;exact zbiZ (yVZ _)
theorem Sx.part_pos (lv:Nat) {x:Sx.Ex} (h:Sx.okX x):0<(Sx.part lv x).length:=by
 unfold Sx.part Sx.within;exact zbjZ (fun _=>zbiZ (yVZ _)) fun _=>Sx.expr_pos h
theorem Sx.part_len (lv:Nat) (x:Sx.Ex):(Sx.part lv x).length<=8 * Sx.sizeX x:=by
 have:=Sx.expr_len SY x;unfold Sx.part Sx.within;split <;> simp <;> omega
theorem zciZ (n:Nat) (hn:n<=1000000) (ih:ToldOk n) (x:Sx.Ex) (hsz:Sx.sizeX x<=n) (hok:Sx.okX x) (hnum:Sx.numX x) (lv:Nat) (hlv:lv<=8) (v:Value) (W:World) (hG:GL W) (hN:NG<=W.heap.size) (ht:IsEx W v x) :
  Calls Tryz.prog 78 #[v,.int .i64 (lv:Nat)] W fun e W'=>∃u,e=.returned u/\OwnS W' W.heap.size u (Sx.part lv x)/\Below W.heap.size W W':=by
 obtain⟨At,ct,An,cn,Ap,cp,rfl,htt,hnn,hp,hn0,hn1⟩:=ht.agg;have Hi:=hok.kind;have H8:=Sx.expr_len SY x;have H4:=zh (show(Sx.expr SY x).length<=8000000 by omega);have Hf:(0:Int)<=(lv:Int)/\(lv:Int)<=8:=by omega
 have Hg:=zh (fun X (h1:GL X) (h2:NG<=X.heap.size) (h3:Below W.heap.size W X)=>ih x hsz hok hnum _ X h1 h2 (IsEx.below h3 _ _ ht));have Hd:=zh Hi;have H9:=zh (Sx.expr_pos hok);clear htt hnn hp hn0 hn1 ht ih hsz hok hnum H8;obtain⟨L,B,w2,hL,hw2,hB,HX⟩:=boxed hG hN #[.int .i64 x.pos,.int .i64 x.kind,.int .i64 x.n,.string ⟨x.s.toArray⟩,.slice At x.t.length ct,.slice An x.names.length cn,.slice Ap x.parts.length cp];obtain⟨x0,x1,x2,x3,x4,x5,x6⟩:=zbZ HX.o.box;have Hc:=zaZ HX.o.box;clear hG hN;go_enter Tryz.func78, Tryz.ntmps78;go_wp2_with (go_at_call 34;refine(Hg.o w2 (HX.o.gx w2 HX.o.r2).1 (HX.o.gx w2 HX.o.r2).2 (HX.o.wx w2 HX.o.r2)).mono ?_;rintro e w3 ⟨u3,rfl,H6,Ha⟩;obtain⟨A3,c3,rfl⟩:=H6.slice;rw[hB]at H6 Ha;have Hb:=zh H6;have H5:=zh Ha;clear H6 Ha x0 x1 x2 x3 x4 x5 x6 Hc;obtain⟨x0,x1,x2,x3,x4,x5,x6⟩:=zbZ (HX.o.bx w3 H5.o);have Hc:=zaZ (HX.o.bx w3 H5.o));refine(zgoZ x.kind w3 Hd.o.1 Hd.o.2).mono ?_;rintro e w4 ⟨rfl,rfl⟩;obtain⟨lx,hlx⟩:=zE (Sx.level x.kind);rw[hlx];by_cases hlt:lx<lv
 ·have He:(lx:Int)<(lv:Int):=(by omega);have H1:=zh (show [[40]]++Sx.expr SY x++[[41]]=Sx.part lv x by unfold Sx.part;rw[hlx,if_pos hlt];rfl);have H2:=zh Hb.o.row;obtain⟨B3,hB3⟩:=zE (w3.heap.size);have H7:=zh hB3;have H0:=zh (show B3<=w3.heap.size by rw[hB3];exact ybZ _);have H3:=zh (show B<=B3 by rw[<-hB3];exact ymZ HX.o.bb H5.o.size);obtain⟨tl,htl⟩:=zE (Sx.expr SY x);rw[htl]at H2 H4 H1 Hb ⊢;have Hj:=zh (show 0<tl.length by rw[<-htl];exact H9.o);clear hlx htl;go_upto_region 3 with fail
  have hB0:Below B3 w3 w3:=yqZ _ _;have hO0:OwnS w3 B3 (.slice none 0 0) []:=yOZ _ _ _ _;obtain⟨Fs,⟨F0,F1,F2,F3,F4,F5,-⟩,hstay⟩:=zrZ [AppF 0,StrF tl,AppF 1,StrF [[41]],AppF 2,AppF 2];obtain⟨Lf,⟨L0,L1,L2,L3,-⟩,hL⟩:=zbkZ ([[40]]) [tl,[[41]]] (by simp only[tot];(have h1:=H4.o;simp only[ycZ,yhZ,ynZ]at *;omega));refine zbeZ (apps:=[0,2,4]) hstay hB0 hO0 L0 L3 F5 ?_ ?_
  ·repeat' first | refine OpsOk.cons ?_ ?_ | fail
   ·exact .h0 H0.o F0 L1
   ·exact .rv H7.o F1 H2.o (.n 5)
   ·exact .N 13 14 H0.o hL F2 L1 L2 F0 F1 (hm:=Hj.o)
   ·exact .o0 H0.o F3
   ·exact .N 15 16 H0.o hL F4 L2 L3 F2 F3
   ·exact .aa F5 F4 17
   ·exact .nil
  ·intro uq wq rq hBz hOz hz;simp only[yyZ,fillAct,Act.put,yoZ,yzZ,yAZ,hz];clear F0 F1 F2 F3 F4 F5 hstay hL L0 L1 L2 L3 hz;have Hh:=zh hOz;have Hk:=zh hBz;clear hOz hBz;go_wp2_with fail;go_ret;exact⟨_,rfl,by rw[<-H1.o];exact Hh.o.base_le (ymZ HX.o.wb H3.o),HX.o.wx _ (H5.o.trans (Hk.o.mono H3.o))⟩
 ·have He:¬(lx:Int)<(lv:Int):=(by omega);have H1:=zh (show Sx.expr SY x=Sx.part lv x by unfold Sx.part;rw[hlx,if_neg hlt]);go_wp2_with fail;go_ret;exact⟨_,rfl,by rw[<-H1.o];exact Hb.o.base_le HX.o.wb,HX.o.wx _ H5.o⟩
theorem zhwZ (n:Nat) (hn:n<=1000000) (ih:ToldOk n) (xs:List Sx.Ex) (hsz:Sx.sizeXs xs<=n) (Hv:∀p∈xs,Sx.okX p) (H9:∀p∈xs,Sx.numX p) (v:Value) (W:World) (hG:GL W) (hN:NG<=W.heap.size) (hv:ExRow W v xs) :
  Calls Tryz.prog 79 #[v] W fun e W'=>∃u,e=.returned u/\OwnS W' W.heap.size u (Sx.listed xs)/\Below W.heap.size W W':=by
 obtain⟨Ap,cp,rfl,-,-⟩:=id hv;obtain⟨k,hk⟩:=zE (xs.length);rw[hk]at hv ⊢;have Hy:=Sx.length_sizeXs xs;have k0:(0:Int)<=(k:Int):=by omega
 have k1:(k:Int)<=1000000:=by omega
 obtain⟨B,hB⟩:=zE (W.heap.size);obtain⟨W1,hW1⟩:=zE (W.alloc (.cells #[.string ⟨#[40]⟩] 9));have Hw:Below B W W1:=by rw[<-hW1,<-hB];exact(yqZ _ _).alloc (ybZ _) _
 have Hu:OwnS W1 B (.slice (some ⟨B,0,none⟩) 1 1) [[40]]:=by rw[<-hW1,<-hB];exact OwnS.one (ydZ W _) (ybZ _)
 have Hs:=zh ih;have Hp:=zh (And.intro Hv H9);have HP:=zh hv;have HK:=zh hk;have Hn:=zh (show Sx.sizeXs xs<=n/\n<=1000000 from⟨hsz,hn⟩);have Hi:=zh (fun X (h:Below B W X)=>(show GL X/\NG<=X.heap.size by rw[<-hB]at h;exact⟨hG.below h,ymZ hN h.size⟩));have H7:=zh (fun X (h:Below B W X)=>(show Below W.heap.size W X by rw[hB];exact h));have H2:=zh (show B<=W.heap.size by rw[hB];exact ybZ _);have J1:=zh Hw;have J2:=zh Hu;clear ih Hv H9 hv hk hsz hn Hw Hu Hy hG hN;go_enter Tryz.func79, Tryz.ntmps79;go_wp2_with fail;go_loopg [3,4] k (fun i v3 v4 wr=>∃(m:Nat) (A5:Option Addr) (n5 c5:Nat),i=k-m/\v3=.slice A5 n5 c5/\v4=.int .i64 (m:Nat)/\m<=k/\OwnS wr B (.slice A5 n5 c5) ([[40]]++Sx.list SY 0 (xs.take m))/\Below B W wr)
 case atStart=>exact⟨0,some ⟨B,0,none⟩,1,1,rfl,rfl,rfl,yxZ _,J2.o,J1.o⟩
 case round=>
  obtain⟨m,A5,n5,c5,hi,rfl,rfl,hm,ho,hb⟩:=hrel;have HI:=zh hi;have HO:=zh ho;have Hd:=zh hb;have m0:(0:Int)<=(m:Int):=(by omega);have m1:(m:Int)<=1000000:=(by omega);clear hi ho hb;by_cases hlt:m<k
  ·have J0:(m:Int)<(k:Int):=(by omega);have J4:IntKind.i64.wrap ((m:Int)+1)=(m:Int)+1:=(by rw[yQZ];omega);have Hj:m<xs.length:=(by have:=HK.o;omega);have H0:=yfZ Hj;have Hl:=Sx.list_take Hj;obtain⟨g,off,Atp,ctp,Anp,cnp,App,cpp,rfl,hty,hc5⟩:=HP.o.spot m Hj;obtain⟨p,hpe⟩:=zE (xs[m]'Hj);rw[hpe]at hty hc5 Hl H0;have Hx:=Sx.sizeX_mem H0;have J3:=Sx.sizeXs_take_le xs m;have H6:=zh (show Sx.sizeX p<=n/\Sx.okX p/\Sx.numX p from⟨by have:=Hn.o;omega,Hp.o.1 p H0,Hp.o.2 p H0⟩);have Ha:=zh (Sx.expr_pos (Hp.o.1 p H0));have H1:=zh (show([[40]]++Sx.list SY 0 (xs.take m)).length+(Sx.expr SY p).length<=50000000 by
    have h1:=Sx.list_len SY 0 (xs.take m);have h2:=Sx.expr_len SY p;have h3:=Hn.o;simp only[ycZ,yhZ,ynZ];omega)
   have Hr:=zh hty;have Hg:=zh hc5;have Ht:=zh Hl;clear hty hc5 Hl H0 Hx J3 hpe;by_cases hz:0<m
   ·have Hz:(0:Int)<(m:Int):=(by omega);obtain⟨wa,hwa⟩:=zE (wr.alloc (.cells #[.string ⟨#[44]⟩] 9));have Hb:OwnS wa B (.slice A5 n5 c5) ([[40]]++Sx.list SY 0 (xs.take m)):=(by rw[<-hwa];exact HO.o.below ((yqZ _ _).alloc (ybZ _) _));have H8:Below B W wa:=(by rw[<-hwa];exact Hd.o.alloc (ymZ H2.o Hd.o.size) _);have Hc:Str wa (.slice (some ⟨wr.heap.size,0,none⟩) 1 1) [[44]] (.slice A5 n5 c5):=(by rw[<-hwa];exact Str.one (ydZ wr _) (fun q hq=>(HO.o.lt q hq).2));have He:=zh Hb;have H5:=zh H8;have Hk:=zh Hc;clear Hb H8 Hc;go_upto_region 7 with(at_builtin;refine zlZ rfl _ _ rfl rfl rfl He.o Hk.o (by decide) (by have:=H1.o;simp only[ycZ,yhZ,ynZ]at *;omega) (ymZ H2.o H5.o.size) ?_;intro r5 w5 hO5 Hf;have hB5:=zyZ H5.o (ymZ H2.o H5.o.size) Hf (fun g hg=>(He.o.lt g hg).1);have Hh:=zh hO5;have Ho:=zh hB5;clear hO5 hB5 Hf)
    obtain⟨A6,c6,rfl⟩:=Hh.o.slice;have hB0:Below B W w5:=Ho.o;have hO0:OwnS w5 B (.slice A6 (([[40]]++Sx.list SY 0 (xs.take m))++[[44]]).length c6) (([[40]]++Sx.list SY 0 (xs.take m))++[[44]]):=Hh.o;obtain⟨Fs,⟨F0,F1,F2,F3,F4,F5,F6,F7,-⟩,hstay⟩:=zrZ [IsF (.slice A6 (([[40]]++Sx.list SY 0 (xs.take m))++[[44]]).length c6),IsF (.slice (some ⟨g,off,none⟩) k cp),IsF (.int .i64 (m:Int)),IsF (.pointer (some ⟨g,off+m * 7,none⟩)),IsF (.agg #[.int .i64 p.pos,.int .i64 p.kind,.int .i64 p.n,.string ⟨p.s.toArray⟩,.slice Atp p.t.length ctp,.slice Anp p.names.length cnp,.slice App p.parts.length cpp]),StrF (Sx.expr SY p),AppF 0,AppF 0];obtain⟨Lf,⟨L0,L1,-⟩,hL⟩:=zbdZ ((([[40]]++Sx.list SY 0 (xs.take m))++[[44]])) [(Sx.expr SY p)] (by simp only[tot];(have h1:=H1.o;simp only[ycZ,yhZ,ynZ]at *;omega));refine zbeZ (apps:=[6]) hstay hB0 hO0 L0 L1 F7 ?_ ?_
    ·repeat' first | refine OpsOk.cons ?_ ?_ | fail
     ·exact .m F0 (.z 3 7 [6,0])
     ·exact .m F1 (.n 0)
     ·exact .m F2 (.n 4)
     ·refine OpOk.val rfl rfl F3 RowM.rf fun ρ w r k E hI K hK=>?_;have e18:=E.e 18 1 (by kernel_rfl) F1;have e19:=E.e 19 2 (by kernel_rfl) F2;have H4:=Hg.o w (H7.o w hI.1);obtain⟨hg,c0,c1,c2,c3,c4,c5,c6⟩:=H4;go_simp;exact hK
     ·refine OpOk.val rfl rfl F4 RowM.rf fun ρ w r k E hI K hK=>?_;have e20:=E.e 20 3 (by kernel_rfl) F3;have H4:=Hg.o w (H7.o w hI.1);obtain⟨hg,c0,c1,c2,c3,c4,c5,c6⟩:=H4;go_simp;exact hK
     ·exact .C H2.o F5 Tryz.func34 (.f 21 F4) fun w hb=>Hs.o p H6.o.1 H6.o.2.1 H6.o.2.2 _ w (Hi.o w hb).1 (Hi.o w hb).2 (IsEx.below (H7.o w hb) _ _ Hr.o)
     ·exact .N0 17 22 H2.o hL F6 L0 L1 F0 F5 (hm:=Ha.o)
     ·exact .aa F7 F6 23
     ·exact .nil
    ·intro uq wq rq hBz hOz hz;simp only[yyZ,fillAct,Act.put,yoZ,yzZ,yAZ,hz];clear F0 F1 F2 F3 F4 F5 F6 F7 hstay hL L0 L1 hz;obtain⟨A9,c9,rfl⟩:=hOz.slice;have Hm:=zh hOz;have Hq:=zh hBz;clear hOz hBz;go_wp2_with fail;go_roundg (k-(m+1))
     case measure=>have:=HI.o;omega
     case rel=>exact⟨m+1,A9,_,c9,rfl,rfl,by simp,hlt,by rw[Ht.o,if_pos hz];simpa[yiZ]using Hm.o,Hq.o⟩
   ·have Hz:¬(0:Int)<(m:Int):=(by omega);go_upto_region 7 with fail
    have hB0:Below B W wr:=Hd.o;have hO0:OwnS wr B (.slice A5 n5 c5) ([[40]]++Sx.list SY 0 (xs.take m)):=HO.o;obtain⟨Fs,⟨F0,F1,F2,F3,F4,F5,F6,F7,-⟩,hstay⟩:=zrZ [IsF (.slice A5 n5 c5),IsF (.slice (some ⟨g,off,none⟩) k cp),IsF (.int .i64 (m:Int)),IsF (.pointer (some ⟨g,off+m * 7,none⟩)),IsF (.agg #[.int .i64 p.pos,.int .i64 p.kind,.int .i64 p.n,.string ⟨p.s.toArray⟩,.slice Atp p.t.length ctp,.slice Anp p.names.length cnp,.slice App p.parts.length cpp]),StrF (Sx.expr SY p),AppF 0,AppF 0];obtain⟨Lf,⟨L0,L1,-⟩,hL⟩:=zbdZ (([[40]]++Sx.list SY 0 (xs.take m))) [(Sx.expr SY p)] (by simp only[tot];(have h1:=H1.o;simp only[ycZ,yhZ,ynZ]at *;omega));refine zbeZ (apps:=[6]) hstay hB0 hO0 L0 L1 F7 ?_ ?_
    ·repeat' first | refine OpsOk.cons ?_ ?_ | fail
     ·exact .m F0 (.z 3 7 [6,0])
     ·exact .m F1 (.n 0)
     ·exact .m F2 (.n 4)
     ·refine OpOk.val rfl rfl F3 RowM.rf fun ρ w r k E hI K hK=>?_;have e18:=E.e 18 1 (by kernel_rfl) F1;have e19:=E.e 19 2 (by kernel_rfl) F2;have H4:=Hg.o w (H7.o w hI.1);obtain⟨hg,c0,c1,c2,c3,c4,c5,c6⟩:=H4;go_simp;exact hK
     ·refine OpOk.val rfl rfl F4 RowM.rf fun ρ w r k E hI K hK=>?_;have e20:=E.e 20 3 (by kernel_rfl) F3;have H4:=Hg.o w (H7.o w hI.1);obtain⟨hg,c0,c1,c2,c3,c4,c5,c6⟩:=H4;go_simp;exact hK
     ·exact .C H2.o F5 Tryz.func34 (.f 21 F4) fun w hb=>Hs.o p H6.o.1 H6.o.2.1 H6.o.2.2 _ w (Hi.o w hb).1 (Hi.o w hb).2 (IsEx.below (H7.o w hb) _ _ Hr.o)
     ·exact .N0 17 22 H2.o hL F6 L0 L1 F0 F5 (hm:=Ha.o)
     ·exact .aa F7 F6 23
     ·exact .nil
    ·intro uq wq rq hBz hOz hz;simp only[yyZ,fillAct,Act.put,yoZ,yzZ,yAZ,hz];clear F0 F1 F2 F3 F4 F5 F6 F7 hstay hL L0 L1 hz;obtain⟨A9,c9,rfl⟩:=hOz.slice;have Hm:=zh hOz;have Hq:=zh hBz;clear hOz hBz;go_wp2_with fail;go_roundg (k-(m+1))
     case measure=>have:=HI.o;omega
     case rel=>exact⟨m+1,A9,_,c9,rfl,rfl,by simp,hlt,by rw[Ht.o,if_neg hz];simpa[yiZ]using Hm.o,Hq.o⟩
  ·have J0:¬(m:Int)<(k:Int):=(by omega);have H3:xs.take m=xs:=yjZ (by have:=HK.o;omega);rw[H3]at HO;have H1:=zh (show([[40]]++Sx.list SY 0 xs).length<=50000000 by
    have h1:=Sx.list_len SY 0 xs;have h3:=Hn.o;simp only[ycZ,yhZ,ynZ];omega)
   clear H3;obtain⟨wa,hwa⟩:=zE (wr.alloc (.cells #[.string ⟨#[41]⟩] 9));have Hb:OwnS wa B (.slice A5 n5 c5) ([[40]]++Sx.list SY 0 xs):=(by rw[<-hwa];exact HO.o.below ((yqZ _ _).alloc (ybZ _) _));have H8:Below B W wa:=(by rw[<-hwa];exact Hd.o.alloc (ymZ H2.o Hd.o.size) _);have Hc:Str wa (.slice (some ⟨wr.heap.size,0,none⟩) 1 1) [[41]] (.slice A5 n5 c5):=(by rw[<-hwa];exact Str.one (ydZ wr _) (fun q hq=>(HO.o.lt q hq).2));have He:=zh Hb;have H5:=zh H8;have Hk:=zh Hc;clear Hb H8 Hc;go_wp2_with (at_builtin;refine zlZ rfl _ _ rfl rfl rfl He.o Hk.o (by decide) (by have:=H1.o;simp only[ycZ,yhZ,ynZ]at *;omega) (ymZ H2.o H5.o.size) ?_;intro r5 w5 hO5 Hf;have hB5:=zyZ H5.o (ymZ H2.o H5.o.size) Hf (fun g hg=>(He.o.lt g hg).1);have Hh:=zh hO5;have Ho:=zh hB5;clear hO5 hB5 Hf);go_ret;exact⟨_,rfl,Hh.o,Ho.o⟩
end Go.Proofs.YtdncljdfmdgdaaaGreatDoor
