/-
  The walk of coilref2.signature, over the contract of coilref2.Typed.
-/
import Derived.Test.YtdncljdfmdgdaaaGreatDoorM25
set_option linter.unusedSimpArgs false
set_option linter.unusedVariables false
set_option maxRecDepth 100000
set_option maxHeartbeats 16000000
namespace Go.Proofs.YtdncljdfmdgdaaaGreatDoor
open Go.RowKit Go.Shelf
attribute [local go_sem] opWp zoZ zvZ zpZ
def Sx.pre:Nat->List Sx.Ty->List Lx.Bytes
 | _,[]=>[]
 | i,t::l=>(if 0<i then [[44]]else [])++Sx.typ t++Sx.pre (i+1) l
theorem Sx.pre_append (l:List Sx.Ty):∀(i:Nat) (m:List Sx.Ty),Sx.pre i (l++m)=Sx.pre i l++Sx.pre (i+l.length) m:=by
 induction l with
 | nil=>intro i m;simp[Sx.pre]
 | cons t l ih=>intro i m;rw[yHZ,Sx.pre,Sx.pre,ih,yhZ,show i+1+l.length=i+(l.length+1)by omega];simp
theorem Sx.pre_take {l:List Sx.Ty} {m:Nat} (h:m<l.length):Sx.pre 0 (l.take (m+1))=Sx.pre 0 (l.take m)++(if 0<m then [[44]]else [])++Sx.typ l[m]:=by
 rw[ykZ h,Sx.pre_append,Sx.pre,Sx.pre,List.append_nil,yGZ,yUZ,Nat.min_eq_left (yYZ h),yiZ]
theorem Sx.params_last (t:Sx.Ty) (l:List Sx.Ty):∀i,Sx.params i (l++[t])=Sx.pre i l++([[41]]++Sx.typ t):=by
 induction l with
 | nil=>intro i;simp[Sx.params,Sx.pre]
 | cons u l ih=>intro i;rw[yHZ,Sx.params,Sx.pre,ih];simp
theorem Sx.pre_len:∀(l:List Sx.Ty) (i:Nat),(Sx.pre i l).length<=8 * Sx.sizeL l
 | [],i=>by simp[Sx.pre]
 | t::l,i=>by have h1:=Sx.pre_len l (i+1);have h2:=Sx.typ_len t;rw[Sx.pre,Sx.sizeL];simp only[ycZ];split <;> simp <;> omega
theorem OwnS.one {w:World} {g B:Nat} {s:Lx.Bytes} (h:w.heap[g]? =some (.cells #[.string ⟨s.toArray⟩] 9 (0,0))) (hb:B<=g):OwnS w B (.slice (some ⟨g,0,none⟩) 1 1) [s]:=
 ⟨rfl,.inr ⟨g,1,_,rfl,hb,h,ybZ _,by unfold maxLen;omega,rfl,rfl⟩⟩
def TypedOk (n:Nat):Prop:=∀(t:Sx.Ty),Sx.size t<=n->(∃d,Sx.rightT NM d t=true)->∀(v:Value) (W:World),IsTy W v t->
 Calls Tryz.prog 28 #[v] W fun e W'=>∃u,e=.returned u/\OwnS W' W.heap.size u (Sx.typ t)/\Below W.heap.size W W'
theorem znsZ (n:Nat) (hn:n<=1000000) (ih:TypedOk n) (ps:List Sx.Ty) (hne:0<ps.length) (hsz:Sx.sizeL ps<=n) (hrt:∀t∈ps,∃d,Sx.rightT NM d t=true) (hty1:∀t∈ps,0<(Sx.typ t).length)
  (v:Value) (W:World) (hv:TyRow W v ps) :
  Calls Tryz.prog 69 #[v] W fun e W'=>∃u,e=.returned u/\OwnS W' W.heap.size u ([40]::Sx.params 0 ps)/\Below W.heap.size W W':=by
 obtain⟨Ap,cp,rfl,-,-⟩:=id hv;obtain⟨k,hk⟩:=zE (ps.length);rw[hk]at hv ⊢;have Jc:=Sx.length_size ps;have k0:(0:Int)<=(k:Int):=by omega
 have k1:(k:Int)<=1000000:=by omega
 have k2:(1:Int)<=(k:Int):=by omega
 obtain⟨B,hB⟩:=zE (W.heap.size);obtain⟨W1,hW1⟩:=zE (W.alloc (.cells #[.string ⟨#[40]⟩] 9));have Hx:Below B W W1:=by rw[<-hW1,<-hB];exact(yqZ _ _).alloc (ybZ _) _
 have Hy:OwnS W1 B (.slice (some ⟨B,0,none⟩) 1 1) [[40]]:=by rw[<-hW1,<-hB];exact OwnS.one (ydZ W _) (ybZ _)
 have Hm:=zh ih;have Ja:=zh hrt;have J6:=zh hty1;have HP:=zh hv;have HK:=zh hk;have J4:=zh (show Sx.sizeL ps<=n/\n<=1000000 from⟨hsz,hn⟩);have HB:=zh hB;have J5:=zh Hx;have J9:=zh Hy;clear ih hrt hty1 hv hk hsz hn Hx Hy Jc hne;go_enter Tryz.func69, Tryz.ntmps69;go_wp2_with fail;go_loopg [3,4] k (fun i v3 v4 wr=>∃(m:Nat) (A5:Option Addr) (n5 c5:Nat),i=k-m/\v3=.slice A5 n5 c5/\v4=.int .i64 (m:Nat)/\m+1<=k/\OwnS wr B (.slice A5 n5 c5) ([40]::Sx.pre 0 (ps.take m))/\Below B W wr)
 case atStart=>exact⟨0,some ⟨B,0,none⟩,1,1,rfl,rfl,rfl,by omega,J9.o,J5.o⟩
 case round=>
  obtain⟨m,A5,n5,c5,hi,rfl,rfl,hm,ho,hb⟩:=hrel;have HI:=zh hi;have HO:=zh ho;have Hc:=zh hb;have m0:(0:Int)<=(m:Int):=(by omega);have m1:(m:Int)<=1000000:=(by omega);have Hd:m<ps.length:=by have:=HK.o;omega
  have H7:=zh (show([40]::Sx.pre 0 (ps.take m)).length<=10000000 by
   have h1:=Sx.pre_len (ps.take m) 0;have h2:=Sx.sizeL_take_le ps m;have h3:=J4.o;simp only[yhZ]
   omega)
  clear hi ho hb;obtain⟨g,off,An1,cn1,Ae1,ce1,Aq,cq,rfl,hty,hc5⟩:=HP.o.spot m Hd;have Hr:=Sx.pre_take Hd;have Hv:=Sx.size_mem (yfZ Hd);have Hi:=Ja.o _ (yfZ Hd);have Hk:=J6.o _ (yfZ Hd);obtain⟨p,hpe⟩:=zE (ps[m]'Hd);rw[hpe]at hty hc5 Hr Hv Hi Hk;have Hh:=zh hc5;have Ht:=zh Hr;have Hn:=zh hty;have H6:=zh (show Sx.size p<=n/\n<=1000000/\0<(Sx.typ p).length by have:=J4.o;exact⟨by omega,this.2,Hk⟩);have Hq:=zh Hi;clear hty hc5 Hr Hv Hi Hk;by_cases hlt:m+1<k
  ·have Hu:(m:Int)+1<(k:Int):=(by omega);have Hl:(m:Int)<(k:Int):=(by omega);obtain⟨hg,c0,c1,c2,c3,c4⟩:=Hh.o wr (by rw[HB.o];exact Hc.o);clear hpe;by_cases hz:0<m
   ·have J8:(0:Int)<(m:Int):=(by omega);have H9:=zh (show([40]::Sx.pre 0 (ps.take m))++[[44]]++Sx.typ p=[40]::Sx.pre 0 (ps.take (m+1))by rw[Ht.o,if_pos hz];simp);clear hz;obtain⟨wa,hwa⟩:=zE (wr.alloc (.cells #[.string ⟨#[44]⟩] 9));have J2:OwnS wa B (.slice A5 n5 c5) ([40]::Sx.pre 0 (ps.take m)):=(by rw[<-hwa];exact HO.o.below ((yqZ _ _).alloc (ybZ _) _));have Hz:Below B W wa:=(by rw[<-hwa];exact Hc.o.alloc (by rw[<-HB.o];exact Hc.o.size) _);have Hs:Str wa (.slice (some ⟨wr.heap.size,0,none⟩) 1 1) [[44]] (.slice A5 n5 c5):=(by rw[<-hwa];exact Str.one (ydZ wr _) (fun q hq=>(HO.o.lt q hq).2));have J3:=zh J2;have Ho:=zh Hz;have Jb:=zh Hs;clear J2 Hz Hs;go_wp2_with (at_builtin;refine zlZ rfl _ _ rfl rfl rfl J3.o Jb.o (by decide) (by have:=H7.o;simp at this ⊢;omega) (by rw[<-HB.o];exact Ho.o.size) ?_;intro r5 w5 hO5 Hw;(have hB5:=zyZ Ho.o (by rw[<-HB.o];exact Ho.o.size) Hw (fun g hg=>(J3.o.lt g hg).1);clear c0 c1 c2 c3 c4;obtain⟨hg,c0,c1,c2,c3,c4⟩:=Hh.o w5 (by rw[HB.o];exact hB5);have J1:=zh hO5;have Hj:=zh hB5;clear hO5 hB5 Hw));have He:=Hm.o p H6.o.1 Hq.o _ w5 (IsTy.below (by rw[HB.o];exact Hj.o) _ _ Hn.o);refine He.mono ?_;rintro e w6 ⟨u6,rfl,Hf,H8⟩;have H4:=Str.of_own Hf (fun g hg=>(J1.o.lt g hg).2);have H2:=J1.o.below H8;have H5:=Hj.o.trans (H8.mono (by rw[<-HB.o];exact Hj.o.size));have Ha:=zh H4;have H3:=zh H2;have H0:=zh H5;clear H4 H2 H5 Hf H8 He;go_wp2_with (at_builtin;refine zlZ rfl _ _ rfl rfl rfl H3.o Ha.o H6.o.2.2 (by have:=H7.o;have:=Sx.typ_len p;have:=H6.o;simp at *;omega) (by rw[<-HB.o];exact H0.o.size) ?_;intro r7 w7 hO7 Hb);obtain⟨A7,c7,rfl⟩:=hO7.slice;have hB7:=zyZ H0.o (by rw[<-HB.o];exact H0.o.size) Hb (fun g hg=>(H3.o.lt g hg).1);go_roundg (k-(m+1))
    case measure=>have:=HI.o;omega
    case rel=>exact⟨m+1,A7,_,c7,rfl,rfl,by simp,by omega,by rw[<-H9.o];exact hO7,hB7⟩
   ·have J8:¬(0:Int)<(m:Int):=(by omega);have H9:=zh (show([40]::Sx.pre 0 (ps.take m))++Sx.typ p=[40]::Sx.pre 0 (ps.take (m+1))by rw[Ht.o,if_neg hz];simp);clear hz;go_wp2_with fail;have He:=Hm.o p H6.o.1 Hq.o _ wr (IsTy.below (by rw[HB.o];exact Hc.o) _ _ Hn.o);refine He.mono ?_;rintro e w6 ⟨u6,rfl,Hf,H8⟩;have H4:=Str.of_own Hf (fun g hg=>(HO.o.lt g hg).2);have H2:=HO.o.below H8;have H5:=Hc.o.trans (H8.mono (by rw[<-HB.o];exact Hc.o.size));have Ha:=zh H4;have H3:=zh H2;have H0:=zh H5;clear H4 H2 H5 Hf H8 He;go_wp2_with (at_builtin;refine zlZ rfl _ _ rfl rfl rfl H3.o Ha.o H6.o.2.2 (by have:=H7.o;have:=Sx.typ_len p;have:=H6.o;simp at *;omega) (by rw[<-HB.o];exact H0.o.size) ?_;intro r7 w7 hO7 Hb);obtain⟨A7,c7,rfl⟩:=hO7.slice;have hB7:=zyZ H0.o (by rw[<-HB.o];exact H0.o.size) Hb (fun g hg=>(H3.o.lt g hg).1);go_roundg (k-(m+1))
    case measure=>have:=HI.o;omega
    case rel=>exact⟨m+1,A7,_,c7,rfl,rfl,by simp,by omega,by rw[<-H9.o];exact hO7,hB7⟩
  ·obtain rfl:k=m+1:=(by omega);have Hu:¬(m:Int)+1<((m+1:Nat):Int):=(by omega);have Hg:((m+1:Nat):Int)-1=(m:Int):=(by omega);have J0:IntKind.i64.wrap (((m+1:Nat):Int)-1)=(m:Int):=(by rw[Hg,yQZ];omega);have Hl:(m:Int)<((m+1:Nat):Int):=by omega
   have Hp:=zh (show([40]::Sx.pre 0 (ps.take m))++[[41]]++Sx.typ p=[40]::Sx.params 0 ps by
    have h1:ps=ps.take m++[p]:=by
     conv=>lhs;rw[<-ydbZ m ps]
     rw[List.drop_eq_getElem_cons Hd,hpe,List.drop_of_length_le (by have:=HK.o;omega)]
    conv=>rhs;rw[h1]
    rw[Sx.params_last]
    simp)
   clear hpe;go_wp2_with fail;clear Hg Hu J0 Hl;have J0:IntKind.i64.wrap (m:Int)=(m:Int):=(by rw[yQZ];omega);have Hl:(m:Int)<(m:Int)+1:=(by omega);have hBle:B<=W.heap.size:=(by rw[HB.o];exact ybZ _);have hB0:Below B W wr.drew:=Hc.o.drew;have hO0:OwnS wr.drew B (.slice A5 n5 c5) ([40]::Sx.pre 0 (ps.take m)):=HO.o;obtain⟨Fs,⟨F0,F1,F2,F3,F4,F5,F6,F7,F8,F9,F10,F11,-⟩,hstay⟩:=zrZ [IsF (.slice A5 n5 c5),StrF [[41]],AppF 0,IsF (.slice (some ⟨g,off,none⟩) (m+1) cp),IsF (.slice (some ⟨g,off,none⟩) (m+1) cp),IsF (.int .i64 ((m:Int)+1)),IsF (.int .i64 (m:Int)),IsF (.pointer (some ⟨g,off+m * 5,none⟩)),IsF (.agg #[.int .i64 p.kind,.string ⟨p.name.toArray⟩,.slice An1 p.names.length cn1,.slice Ae1 p.embeds.length ce1,.slice Aq p.parts.length cq]),StrF (Sx.typ p),AppF 1,AppF 1];obtain⟨Lf,⟨L0,L1,L2,-⟩,hL⟩:=zbdZ (([40]::Sx.pre 0 (ps.take m))) [[[41]],(Sx.typ p)] (by simp only[tot];(have:=H7.o;have:=Sx.typ_len p;have:=H6.o;simp only[ycZ,yhZ,ynZ]at *;omega));refine zbbZ (apps:=[2,10]) hstay hB0 hO0 L0 L2 F11 ?_ ?_
   ·repeat' first | refine OpsOk.cons ?_ ?_ | fail
    ·exact .m F0 (.n 3)
    ·exact .o0 hBle F1
    ·exact .N0 25 26 hBle hL F2 L0 L1 F0 F1
    ·exact .m F3 (.n 0)
    ·exact .m F4 (.n 0)
    ·exact .v1 F5 (.f 29 F4)
    ·exact .v1 F6 (.f 30 F5)
    ·refine OpOk.val rfl rfl F7 RowM.rf fun ρ w r k E hI K hK=>?_;have e28:=E.e 28 3 (by kernel_rfl) F3;have e31:=E.e 31 6 (by kernel_rfl) F6;have H1:=Hh.o w (by rw[HB.o];exact hI.1);have hg:=H1.1;have c0:=H1.2.1;have c1:=H1.2.2.1;have c2:=H1.2.2.2.1;have c3:=H1.2.2.2.2.1;have c4:=H1.2.2.2.2.2;clear H1;go_simp;exact hK
    ·refine OpOk.val rfl rfl F8 RowM.rf fun ρ w r k E hI K hK=>?_;have e32:=E.e 32 7 (by kernel_rfl) F7;have H1:=Hh.o w (by rw[HB.o];exact hI.1);have hg:=H1.1;have c0:=H1.2.1;have c1:=H1.2.2.1;have c2:=H1.2.2.2.1;have c3:=H1.2.2.2.2.1;have c4:=H1.2.2.2.2.2;clear H1;go_simp;exact hK
    ·exact .C hBle F9 Tryz.func28 (.f 33 F8) fun w hb=>Hm.o p H6.o.1 Hq.o _ w (IsTy.below (by rw[HB.o];exact hb) _ _ Hn.o)
    ·exact .N 27 34 hBle hL F10 L1 L2 F2 F9 (hm:=H6.o.2.2)
    ·exact .aa F11 F10 35
    ·exact .nil
   ·intro uq wq rq hBz hOz hz;simp only[yyZ,fillAct,Act.put,yoZ,yzZ,yAZ,hz];clear F0 F1 F2 F3 F4 F5 F6 F7 F8 F9 F10 F11 hstay hL L0 L1 L2 hz;obtain⟨A9,c9,rfl⟩:=hOz.slice;have Jd:=zh hOz;have J7:=zh hBz;clear hOz hBz;go_wp2_with fail;go_ret;exact⟨_,rfl,by rw[HB.o,<-Hp.o];exact Jd.o,by rw[HB.o];exact J7.o⟩
def TypedIs (t:Sx.Ty) (v:Value) (W:World):Prop:=Calls Tryz.prog 28 #[v] W fun e W'=>∃u,e=.returned u/\OwnS W' W.heap.size u (Sx.typ t)/\Below W.heap.size W W'
theorem Sx.typ_pos {N:Sx.Names} {d:Nat} {t:Sx.Ty} (h:Sx.rightT N d t=true):0<(Sx.typ t).length:=by
 obtain⟨d',rfl,-,hsh⟩:=Sx.right_parts h;rw[Sx.typ_eq];rcases Sx.shape_kind hsh with hk | hk | hk | hk | hk | hk | hk | hk <;> rw[hk] <;> simp
theorem IsTy.row {W:World} {k:Int} {n:Lx.Bytes} {v1 v2:Value} {A:Option Addr} {m c:Nat} {t:Sx.Ty} (h:IsTy W (.agg #[.int .i64 k,.string ⟨n.toArray⟩,v1,v2,.slice A m c]) t):TyRow W (.slice A m c) t.parts:=by
 obtain⟨An,cn,Ae,ce,Ap,cp,he,-,-,hp⟩:=h.agg;injection he with he;simp only[ykbZ,ygbZ,ymbZ]at he;obtain⟨-,-,-,-,he⟩:=he;rw[he];exact hp
theorem zxlZ (n:Nat) (hn:n+1<=1000000) (ih:TypedOk n) (t:Sx.Ty) (hsz0:Sx.size t<=n+1) (hr0:∃d,Sx.rightT NM d t=true) (hkd:t.kind=1) (v:Value) (W:World) (ht:IsTy W v t):TypedIs t v W:=by
 unfold TypedIs;obtain⟨An,cn,Ae,ce,Ap,cp,rfl,hnm,hem,hp⟩:=ht.agg;obtain⟨d,hr⟩:=hr0;obtain⟨d',rfl,hr',hsh⟩:=Sx.right_parts hr;rw[hkd]at hsh ht ⊢;have H6:=Sx.size_parts t;have H2:Sx.sizeL t.parts<=n:=by omega
 have Hc:=Sx.length_size t.parts;have HT:=zh (show Sx.typ t=[[105,110,116]]by rw[Sx.typ_eq,hkd];simp);obtain⟨L,hL⟩:=zE (W.heap.size);obtain⟨w2,hw2⟩:=zE (W.alloc (.cells #[.int .i64 1,.string ⟨t.name.toArray⟩,.slice An t.names.length cn,.slice Ae t.embeds.length ce,.slice Ap t.parts.length cp] 26));have H0:w2.heap[L]? =some (.cells #[.int .i64 1,.string ⟨t.name.toArray⟩,.slice An t.names.length cn,.slice Ae t.embeds.length ce,.slice Ap t.parts.length cp] 26 (0,0)):=by rw[<-hw2,<-hL];exact ydZ W _
 have H3:Below L W w2:=by rw[<-hw2,<-hL];exact(yqZ _ _).alloc (ybZ _) _
 obtain⟨B,hB⟩:=zE (w2.heap.size);have hLB:L<B:=by rw[<-hB];exact zaZ H0
 have H1:=zh (show B<=w2.heap.size by rw[hB];exact ybZ _);have H4:=zh (fun X (h:Below B w2 X)=>(show Below W.heap.size W X by rw[hL];exact H3.trans (h.mono (yYZ hLB))));have H7:=zh (show W.heap.size<=B by rw[hL];exact yYZ hLB);have H8:=zh (show Below B w2 w2 from yqZ _ _);have H5:=zh (fun(s:Lx.Bytes)=>(show OwnS (w2.alloc (.cells #[.string ⟨s.toArray⟩] 9)) B (.slice (some ⟨B,0,none⟩) 1 1) [s]by have:=OwnS.one (B:=B) (s:=s) (ydZ w2 (.cells #[.string ⟨s.toArray⟩] 9)) H1.o;rw[hB]at this;exact this));obtain⟨x0,x1,x2,x3,x4⟩:=zcZ H0;have Hd:=zaZ H0;clear ih hr hr' ht hp hnm hem H6 H2 H0 H3 hsh hkd hsz0 hn;go_enter Tryz.func28, Tryz.ntmps28;go_wp2_with fail;go_ret;exact⟨.slice (some ⟨B,0,none⟩) 1 1,rfl,by rw[HT.o];exact(H5.o [105,110,116]).base_le H7.o,H4.o _ (H8.o.alloc H1.o _)⟩
theorem zxmZ (n:Nat) (hn:n+1<=1000000) (ih:TypedOk n) (t:Sx.Ty) (hsz0:Sx.size t<=n+1) (hr0:∃d,Sx.rightT NM d t=true) (hkd:t.kind=2) (v:Value) (W:World) (ht:IsTy W v t):TypedIs t v W:=by
 unfold TypedIs;obtain⟨An,cn,Ae,ce,Ap,cp,rfl,hnm,hem,hp⟩:=ht.agg;obtain⟨d,hr⟩:=hr0;obtain⟨d',rfl,hr',hsh⟩:=Sx.right_parts hr;rw[hkd]at hsh ht ⊢;have H6:=Sx.size_parts t;have H2:Sx.sizeL t.parts<=n:=by omega
 have Hc:=Sx.length_size t.parts;have HT:=zh (show Sx.typ t=[[98,111,111,108]]by rw[Sx.typ_eq,hkd];simp);obtain⟨L,hL⟩:=zE (W.heap.size);obtain⟨w2,hw2⟩:=zE (W.alloc (.cells #[.int .i64 2,.string ⟨t.name.toArray⟩,.slice An t.names.length cn,.slice Ae t.embeds.length ce,.slice Ap t.parts.length cp] 26));have H0:w2.heap[L]? =some (.cells #[.int .i64 2,.string ⟨t.name.toArray⟩,.slice An t.names.length cn,.slice Ae t.embeds.length ce,.slice Ap t.parts.length cp] 26 (0,0)):=by rw[<-hw2,<-hL];exact ydZ W _
 have H3:Below L W w2:=by rw[<-hw2,<-hL];exact(yqZ _ _).alloc (ybZ _) _
 obtain⟨B,hB⟩:=zE (w2.heap.size);have hLB:L<B:=by rw[<-hB];exact zaZ H0
 have H1:=zh (show B<=w2.heap.size by rw[hB];exact ybZ _);have H4:=zh (fun X (h:Below B w2 X)=>(show Below W.heap.size W X by rw[hL];exact H3.trans (h.mono (yYZ hLB))));have H7:=zh (show W.heap.size<=B by rw[hL];exact yYZ hLB);have H8:=zh (show Below B w2 w2 from yqZ _ _);have H5:=zh (fun(s:Lx.Bytes)=>(show OwnS (w2.alloc (.cells #[.string ⟨s.toArray⟩] 9)) B (.slice (some ⟨B,0,none⟩) 1 1) [s]by have:=OwnS.one (B:=B) (s:=s) (ydZ w2 (.cells #[.string ⟨s.toArray⟩] 9)) H1.o;rw[hB]at this;exact this));obtain⟨x0,x1,x2,x3,x4⟩:=zcZ H0;have Hd:=zaZ H0;clear ih hr hr' ht hp hnm hem H6 H2 H0 H3 hsh hkd hsz0 hn;go_enter Tryz.func28, Tryz.ntmps28;go_wp2_with fail;go_ret;exact⟨.slice (some ⟨B,0,none⟩) 1 1,rfl,by rw[HT.o];exact(H5.o [98,111,111,108]).base_le H7.o,H4.o _ (H8.o.alloc H1.o _)⟩
theorem zxnZ (n:Nat) (hn:n+1<=1000000) (ih:TypedOk n) (t:Sx.Ty) (hsz0:Sx.size t<=n+1) (hr0:∃d,Sx.rightT NM d t=true) (hkd:t.kind=3) (v:Value) (W:World) (ht:IsTy W v t):TypedIs t v W:=by
 unfold TypedIs;obtain⟨An,cn,Ae,ce,Ap,cp,rfl,hnm,hem,hp⟩:=ht.agg;obtain⟨d,hr⟩:=hr0;obtain⟨d',rfl,hr',hsh⟩:=Sx.right_parts hr;rw[hkd]at hsh ht ⊢;have H6:=Sx.size_parts t;have H2:Sx.sizeL t.parts<=n:=by omega
 have Hc:=Sx.length_size t.parts;have HT:=zh (show Sx.typ t=[[116,101,120,116]]by rw[Sx.typ_eq,hkd];simp);obtain⟨L,hL⟩:=zE (W.heap.size);obtain⟨w2,hw2⟩:=zE (W.alloc (.cells #[.int .i64 3,.string ⟨t.name.toArray⟩,.slice An t.names.length cn,.slice Ae t.embeds.length ce,.slice Ap t.parts.length cp] 26));have H0:w2.heap[L]? =some (.cells #[.int .i64 3,.string ⟨t.name.toArray⟩,.slice An t.names.length cn,.slice Ae t.embeds.length ce,.slice Ap t.parts.length cp] 26 (0,0)):=by rw[<-hw2,<-hL];exact ydZ W _
 have H3:Below L W w2:=by rw[<-hw2,<-hL];exact(yqZ _ _).alloc (ybZ _) _
 obtain⟨B,hB⟩:=zE (w2.heap.size);have hLB:L<B:=by rw[<-hB];exact zaZ H0
 have H1:=zh (show B<=w2.heap.size by rw[hB];exact ybZ _);have H4:=zh (fun X (h:Below B w2 X)=>(show Below W.heap.size W X by rw[hL];exact H3.trans (h.mono (yYZ hLB))));have H7:=zh (show W.heap.size<=B by rw[hL];exact yYZ hLB);have H8:=zh (show Below B w2 w2 from yqZ _ _);have H5:=zh (fun(s:Lx.Bytes)=>(show OwnS (w2.alloc (.cells #[.string ⟨s.toArray⟩] 9)) B (.slice (some ⟨B,0,none⟩) 1 1) [s]by have:=OwnS.one (B:=B) (s:=s) (ydZ w2 (.cells #[.string ⟨s.toArray⟩] 9)) H1.o;rw[hB]at this;exact this));obtain⟨x0,x1,x2,x3,x4⟩:=zcZ H0;have Hd:=zaZ H0;clear ih hr hr' ht hp hnm hem H6 H2 H0 H3 hsh hkd hsz0 hn;go_enter Tryz.func28, Tryz.ntmps28;go_wp2_with fail;go_ret;exact⟨.slice (some ⟨B,0,none⟩) 1 1,rfl,by rw[HT.o];exact(H5.o [116,101,120,116]).base_le H7.o,H4.o _ (H8.o.alloc H1.o _)⟩
theorem zxoZ (n:Nat) (hn:n+1<=1000000) (ih:TypedOk n) (t:Sx.Ty) (hsz0:Sx.size t<=n+1) (hr0:∃d,Sx.rightT NM d t=true) (hkd:t.kind=4) (v:Value) (W:World) (ht:IsTy W v t):TypedIs t v W:=by
 unfold TypedIs;obtain⟨An,cn,Ae,ce,Ap,cp,rfl,hnm,hem,hp⟩:=ht.agg;obtain⟨d,hr⟩:=hr0;obtain⟨d',rfl,hr',hsh⟩:=Sx.right_parts hr;rw[hkd]at hsh ht ⊢;have H6:=Sx.size_parts t;have H2:Sx.sizeL t.parts<=n:=by omega
 have Hc:=Sx.length_size t.parts;have HT:=zh (show Sx.typ t=[t.name]by rw[Sx.typ_eq,hkd];simp);obtain⟨L,hL⟩:=zE (W.heap.size);obtain⟨w2,hw2⟩:=zE (W.alloc (.cells #[.int .i64 4,.string ⟨t.name.toArray⟩,.slice An t.names.length cn,.slice Ae t.embeds.length ce,.slice Ap t.parts.length cp] 26));have H0:w2.heap[L]? =some (.cells #[.int .i64 4,.string ⟨t.name.toArray⟩,.slice An t.names.length cn,.slice Ae t.embeds.length ce,.slice Ap t.parts.length cp] 26 (0,0)):=by rw[<-hw2,<-hL];exact ydZ W _
 have H3:Below L W w2:=by rw[<-hw2,<-hL];exact(yqZ _ _).alloc (ybZ _) _
 obtain⟨B,hB⟩:=zE (w2.heap.size);have hLB:L<B:=by rw[<-hB];exact zaZ H0
 have H1:=zh (show B<=w2.heap.size by rw[hB];exact ybZ _);have H4:=zh (fun X (h:Below B w2 X)=>(show Below W.heap.size W X by rw[hL];exact H3.trans (h.mono (yYZ hLB))));have H7:=zh (show W.heap.size<=B by rw[hL];exact yYZ hLB);have H8:=zh (show Below B w2 w2 from yqZ _ _);have H5:=zh (fun(s:Lx.Bytes)=>(show OwnS (w2.alloc (.cells #[.string ⟨s.toArray⟩] 9)) B (.slice (some ⟨B,0,none⟩) 1 1) [s]by have:=OwnS.one (B:=B) (s:=s) (ydZ w2 (.cells #[.string ⟨s.toArray⟩] 9)) H1.o;rw[hB]at this;exact this));obtain⟨x0,x1,x2,x3,x4⟩:=zcZ H0;have Hd:=zaZ H0;clear ih hr hr' ht hp hnm hem H6 H2 H0 H3 hsh hkd hsz0 hn;go_enter Tryz.func28, Tryz.ntmps28;go_wp2_with fail;go_ret;exact⟨.slice (some ⟨B,0,none⟩) 1 1,rfl,by rw[HT.o];exact(H5.o t.name).base_le H7.o,H4.o _ (H8.o.alloc H1.o _)⟩
theorem zxpZ (n:Nat) (hn:n+1<=1000000) (ih:TypedOk n) (t:Sx.Ty) (hsz0:Sx.size t<=n+1) (hr0:∃d,Sx.rightT NM d t=true) (hkd:t.kind=5) (v:Value) (W:World) (ht:IsTy W v t):TypedIs t v W:=by
 unfold TypedIs;obtain⟨An,cn,Ae,ce,Ap,cp,rfl,hnm,hem,hp⟩:=ht.agg;obtain⟨d,hr⟩:=hr0;obtain⟨d',rfl,hr',hsh⟩:=Sx.right_parts hr;rw[hkd]at hsh ht ⊢;have Hr:=Sx.size_parts t;have Hk:Sx.sizeL t.parts<=n:=by omega
 have J0:=Sx.length_size t.parts;have Hc:0<t.parts.length:=by simp[Sx.shape]at hsh;omega
 obtain⟨g,off,An1,cn1,Ae1,ce1,Aq,cq,rfl,hty,hc5⟩:=hp.spot 0 Hc;obtain⟨p,hpe⟩:=zE (t.parts[0]'Hc);have H2:p∈t.parts:=by rw[<-hpe];exact yfZ Hc
 rw[hpe]at hty hc5;have Hn:=zh hty;have Hv:=zh hc5;have Hb:=zh (show Sx.size p<=n/\(∃d,Sx.rightT NM d p=true)/\0<(Sx.typ p).length/\n+1<=1000000 from⟨by have:=Sx.size_mem H2;omega,⟨d',hr' p H2⟩,Sx.typ_pos (hr' p H2),hn⟩);have Ho:(0:Int)<(t.parts.length:Int):=by omega
 have HT:=zh (show Sx.typ t=[42]::Sx.typ p by
  rw[Sx.typ_eq,hkd,Sx.typL_head Hc,hpe]
  simp)
 have Hu:=zh ih;obtain⟨L,hL⟩:=zE (W.heap.size);obtain⟨w2,hw2⟩:=zE (W.alloc (.cells #[.int .i64 5,.string ⟨t.name.toArray⟩,.slice An t.names.length cn,.slice Ae t.embeds.length ce,.slice (some ⟨g,off,none⟩) t.parts.length cp] 26));have H1:w2.heap[L]? =some (.cells #[.int .i64 5,.string ⟨t.name.toArray⟩,.slice An t.names.length cn,.slice Ae t.embeds.length ce,.slice (some ⟨g,off,none⟩) t.parts.length cp] 26 (0,0)):=by rw[<-hw2,<-hL];exact ydZ W _
 have Hm:Below L W w2:=by rw[<-hw2,<-hL];exact(yqZ _ _).alloc (ybZ _) _
 obtain⟨B,hB⟩:=zE (w2.heap.size);have hLB:L<B:=by rw[<-hB];exact zaZ H1
 have H4:=zh (show B<=w2.heap.size by rw[hB];exact ybZ _);have Hf:=zh (fun X (h:Below B w2 X)=>(show Below W.heap.size W X by rw[hL];exact Hm.trans (h.mono (yYZ hLB))));have Hs:=zh (show W.heap.size<=B by rw[hL];exact yYZ hLB);have Hw:=zh (fun X (h:Below B w2 X)=>(show X.heap[L]? =some (.cells #[.int .i64 5,.string ⟨t.name.toArray⟩,.slice An t.names.length cn,.slice Ae t.embeds.length ce,.slice (some ⟨g,off,none⟩) t.parts.length cp] 26 (0,0))from(h.block L hLB).trans H1));have Ht:=zh (show Below B w2 w2 from yqZ _ _);obtain⟨x0,x1,x2,x3,x4⟩:=zcZ H1;have J1:=zaZ H1;clear ih hr hr' ht hp hnm hem Hr Hk H1 Hm hsh hkd hsz0 hn hty hc5 hpe H2;go_enter Tryz.func28, Tryz.ntmps28;obtain⟨w3,hw3⟩:=zE (w2.alloc (.cells #[.string ⟨#[42]⟩] 9));have H5:Below B w2 w3:=by rw[<-hw3];exact Ht.o.alloc H4.o _
 have Hj:OwnS w3 B (.slice (some ⟨B,0,none⟩) 1 1) [[42]]:=by rw[<-hw3];have:=OwnS.one (B:=B) (ydZ w2 (.cells #[.string ⟨#[42]⟩] 9)) H4.o;rw[hB]at this;exact this
 have H0:=Hw.o w3 H5;obtain⟨y0,y1,y2,y3,y4⟩:=zcZ H0;have J2:=zaZ H0;have Hh:=zh Hj;have Hl:=zh H5;obtain⟨hg5,d0,d1,d2,d3,d4⟩:=Hv.o w3 (Hf.o _ H5);rw[yrZ,ypZ]at d0 d1 d2 d3 d4;have He:=zh (show B<=w3.heap.size from ymZ H4.o H5.size);clear H5 Hj H0
 go_wp2_with (first
  | (go_at_call 28;refine(Hu.o p Hb.o.1 Hb.o.2.1 _ w3 (IsTy.below (Hf.o w3 Hl.o) _ _ Hn.o)).mono ?_;rintro e w6 ⟨u6,rfl,Hi,Hd⟩;have H6:=Str.of_own Hi (fun g hg=>(Hh.o.lt g hg).2);have H7:=Hh.o.below Hd;have Ha:=Hl.o.trans (Hd.mono He.o);have Hg:=zh H6;have H8:=zh H7;have H3:=zh Ha;clear H6 H7 Ha Hi Hd)
  | (at_builtin;refine zlZ rfl _ _ rfl rfl rfl H8.o Hg.o (Hb.o.2.2.1) (by have:=Hb.o;have:=Sx.typ_len p;simp;omega) (ymZ H4.o H3.o.size) ?_;intro r7 w7 hO7 H9))
 have hB7:=zyZ H3.o (ymZ H4.o H3.o.size) H9 (fun g hg=>(H8.o.lt g hg).1);have Hp:=zh hO7;have Hq:=zh hB7;clear hO7 hB7 H9;go_ret;exact⟨_,rfl,by rw[HT.o];exact Hp.o.base_le Hs.o,Hf.o _ Hq.o⟩
theorem zxqZ (n:Nat) (hn:n+1<=1000000) (ih:TypedOk n) (t:Sx.Ty) (hsz0:Sx.size t<=n+1) (hr0:∃d,Sx.rightT NM d t=true) (hkd:t.kind=7) (v:Value) (W:World) (ht:IsTy W v t):TypedIs t v W:=by
 unfold TypedIs;obtain⟨An,cn,Ae,ce,Ap,cp,rfl,hnm,hem,hp⟩:=ht.agg;obtain⟨d,hr⟩:=hr0;obtain⟨d',rfl,hr',hsh⟩:=Sx.right_parts hr;rw[hkd]at hsh ht ⊢;have Hp:=Sx.size_parts t;have Hi:Sx.sizeL t.parts<=n:=by omega
 have Hw:=Sx.length_size t.parts;have Hl:0<t.parts.length:=by simp[Sx.shape]at hsh;omega
 have Ho:=zh Hl;have HT:=zh (show Sx.typ t=[102,110]::([40]::Sx.params 0 t.parts)by rw[Sx.typ_eq,hkd];simp);have Hs:=zh ih;have HR:=zh hr';have Hd:=zh (show Sx.sizeL t.parts<=n/\n+1<=1000000 from⟨Hi,hn⟩);obtain⟨L,hL⟩:=zE (W.heap.size);obtain⟨w2,hw2⟩:=zE (W.alloc (.cells #[.int .i64 7,.string ⟨t.name.toArray⟩,.slice An t.names.length cn,.slice Ae t.embeds.length ce,.slice Ap t.parts.length cp] 26));have H1:w2.heap[L]? =some (.cells #[.int .i64 7,.string ⟨t.name.toArray⟩,.slice An t.names.length cn,.slice Ae t.embeds.length ce,.slice Ap t.parts.length cp] 26 (0,0)):=by rw[<-hw2,<-hL];exact ydZ W _
 have Hk:Below L W w2:=by rw[<-hw2,<-hL];exact(yqZ _ _).alloc (ybZ _) _
 obtain⟨B,hB⟩:=zE (w2.heap.size);have hLB:L<B:=by rw[<-hB];exact zaZ H1
 have H3:=zh (show B<=w2.heap.size by rw[hB];exact ybZ _);have Hh:=zh (fun X (h:Below B w2 X)=>(show Below W.heap.size W X by rw[hL];exact Hk.trans (h.mono (yYZ hLB))));have Hq:=zh (show W.heap.size<=B by rw[hL];exact yYZ hLB);have Ht:=zh (fun X (h:Below B w2 X)=>(show X.heap[L]? =some (.cells #[.int .i64 7,.string ⟨t.name.toArray⟩,.slice An t.names.length cn,.slice Ae t.embeds.length ce,.slice Ap t.parts.length cp] 26 (0,0))from(h.block L hLB).trans H1));have Hr:=zh (show Below B w2 w2 from yqZ _ _);have HP:=zh hp;obtain⟨x0,x1,x2,x3,x4⟩:=zcZ H1;have Hx:=zaZ H1;clear ih hr hr' ht hp hnm hem Hp Hi H1 Hk hsh hkd hsz0 hn Hl;go_enter Tryz.func28, Tryz.ntmps28;obtain⟨w3,hw3⟩:=zE (w2.alloc (.cells #[.string ⟨#[102,110]⟩] 9));have H9:Below B w2 w3:=by rw[<-hw3];exact Hr.o.alloc H3.o _
 have Hg:OwnS w3 B (.slice (some ⟨B,0,none⟩) 1 1) [[102,110]]:=by rw[<-hw3];have:=OwnS.one (B:=B) (ydZ w2 (.cells #[.string ⟨#[102,110]⟩] 9)) H3.o;rw[hB]at this;exact this
 have H0:=Ht.o w3 H9;obtain⟨y0,y1,y2,y3,y4⟩:=zcZ H0;have Hy:=zaZ H0;have He:=zh Hg;have Hj:=zh H9;have Hb:=zh (show B<=w3.heap.size from ymZ H3.o H9.size);clear H9 Hg H0
 go_wp2_with (first
  | (go_at_call 69;refine(znsZ n (by have:=Hd.o;omega) Hs.o t.parts Ho.o Hd.o.1 (fun p hm=>⟨_,HR.o p hm⟩) (fun p hm=>Sx.typ_pos (HR.o p hm)) _ w3 (HP.o.below (Hh.o w3 Hj.o))).mono ?_;rintro e w6 ⟨u6,rfl,Hf,Ha⟩;have H4:=Str.of_own Hf (fun g hg=>(He.o.lt g hg).2);have H5:=He.o.below Ha;have H8:=Hj.o.trans (Ha.mono Hb.o);have Hc:=zh H4;have H6:=zh H5;have H2:=zh H8;clear H4 H5 H8 Hf Ha)
  | (at_builtin;refine zlZ rfl _ _ rfl rfl rfl H6.o Hc.o (by simp) (by have:=Hd.o;have:=Sx.params_len 0 t.parts;simp;omega) (ymZ H3.o H2.o.size) ?_;intro r7 w7 hO7 H7))
 have hB7:=zyZ H2.o (ymZ H3.o H2.o.size) H7 (fun g hg=>(H6.o.lt g hg).1);have Hm:=zh hO7;have Hn:=zh hB7;clear hO7 hB7 H7;go_ret;exact⟨_,rfl,by rw[HT.o];exact Hm.o.base_le Hq.o,Hh.o _ Hn.o⟩
theorem zxrZ (n:Nat) (hn:n+1<=1000000) (ih:TypedOk n) (t:Sx.Ty) (hsz0:Sx.size t<=n+1) (hr0:∃d,Sx.rightT NM d t=true) (hkd:t.kind=8) (v:Value) (W:World) (ht:IsTy W v t):TypedIs t v W:=by
 unfold TypedIs;obtain⟨An,cn,Ae,ce,Ap,cp,rfl,hnm,hem,hp⟩:=ht.agg;obtain⟨d,hr⟩:=hr0;obtain⟨d',rfl,hr',hsh⟩:=Sx.right_parts hr;rw[hkd]at hsh ht ⊢;have Jd:=Sx.size_parts t;have Hq:Sx.sizeL t.parts<=n:=by omega
 have Jb:=Sx.length_size t.parts;have Hu:t.names.length=t.parts.length:=by simp[Sx.shape]at hsh;omega
 have Hk:=zh Hu;have Je:=zh (show ∀p∈t.parts,p.kind=7 by simp[Sx.shape]at hsh;exact hsh.1);have HT:=zh (show Sx.typ t=[[105,110,116,101,114,102,97,99,101],[123]]++Sx.methods t.names t.parts++[[125]]by rw[Sx.typ_eq,hkd];simp);have Ja:=zh ih;have HR:=zh hr';have Ha:=zh (show Sx.sizeL t.parts<=n/\n+1<=1000000 from⟨Hq,hn⟩);obtain⟨L,hL⟩:=zE (W.heap.size);obtain⟨w2,hw2⟩:=zE (W.alloc (.cells #[.int .i64 8,.string ⟨t.name.toArray⟩,.slice An t.names.length cn,.slice Ae t.embeds.length ce,.slice Ap t.parts.length cp] 26));have H3:w2.heap[L]? =some (.cells #[.int .i64 8,.string ⟨t.name.toArray⟩,.slice An t.names.length cn,.slice Ae t.embeds.length ce,.slice Ap t.parts.length cp] 26 (0,0)):=by rw[<-hw2,<-hL];exact ydZ W _
 have Hw:Below L W w2:=by rw[<-hw2,<-hL];exact(yqZ _ _).alloc (ybZ _) _
 obtain⟨B,hB⟩:=zE (w2.heap.size);have hLB:L<B:=by rw[<-hB];exact zaZ H3
 have H2:=zh (show B<=w2.heap.size by rw[hB];exact ybZ _);have H7:=zh (fun X (h:Below B w2 X)=>(show Below W.heap.size W X by rw[hL];exact Hw.trans (h.mono (yYZ hLB))));have J9:=zh (show W.heap.size<=B by rw[hL];exact yYZ hLB);have H4:=zh (fun X (h:Below B w2 X)=>(show X.heap[L]? =some (.cells #[.int .i64 8,.string ⟨t.name.toArray⟩,.slice An t.names.length cn,.slice Ae t.embeds.length ce,.slice Ap t.parts.length cp] 26 (0,0))from(h.block L hLB).trans H3));have Hz:=zh (show Below B w2 w2 from yqZ _ _);have HP:=zh hp;have Jf:=zh hnm;obtain⟨x0,x1,x2,x3,x4⟩:=zcZ H3;have Jk:=zaZ H3;clear ih hr hr' ht hp hnm hem Jd Hq H3 Hw hsh hkd hsz0 hn Hu;go_enter Tryz.func28, Tryz.ntmps28;obtain⟨k,hk⟩:=zE (t.parts.length);have Jh:(k:Int)<=1000000:=by have:=Ha.o;omega
 have HK:=zh hk;clear Jb;rw[hk]at x4;obtain⟨w3,hw3⟩:=zE (w2.alloc (.cells #[.string ⟨#[105,110,116,101,114,102,97,99,101]⟩,.string ⟨#[123]⟩] 9));have Ho:Below B w2 w3:=by rw[<-hw3];exact Hz.o.alloc H2.o _
 have Hl:OwnS w3 B (.slice (some ⟨B,0,none⟩) 2 2) ([[105,110,116,101,114,102,97,99,101],[123]]++Sx.methods (t.names.take 0) (t.parts.take 0)):=by rw[<-hw3];have:=OwnS.arr (B:=B) (l:=[[105,110,116,101,114,102,97,99,101],[123]]) (ydZ w2 (.cells #[.string ⟨#[105,110,116,101,114,102,97,99,101]⟩,.string ⟨#[123]⟩] 9)) rfl (by simp[maxLen]) H2.o;rw[hB]at this;simpa[Sx.fields,Sx.methods]using this
 have J2:=zh Hl;have J4:=zh Ho;clear Hl Ho hk;go_wp2_with fail;go_loopg [3,4] k (fun i v3 v4 wr=>∃(m:Nat) (A5:Option Addr) (n5 c5:Nat),i=k-m/\v3=.slice A5 n5 c5/\v4=.int .i64 (m:Nat)/\m<=k/\OwnS wr B (.slice A5 n5 c5) ([[105,110,116,101,114,102,97,99,101],[123]]++Sx.methods (t.names.take m) (t.parts.take m))/\Below B w2 wr)
 case atStart=>exact⟨0,some ⟨B,0,none⟩,2,2,rfl,rfl,rfl,yxZ _,J2.o,J4.o⟩
 case round=>
  obtain⟨m,A5,n5,c5,hi,rfl,rfl,hm,ho,hb⟩:=hrel;have HI:=zh hi;have HO:=zh ho;have Hd:=zh hb;have m0:(0:Int)<=(m:Int):=(by omega);have m1:(m:Int)<=1000000:=(by omega);clear hi ho hb x0 x1 x2 x3 x4;have H1:=H4.o wr Hd.o;rw[HK.o]at H1;obtain⟨x0,x1,x2,x3,x4⟩:=zcZ H1;have J0:=zaZ H1;clear H1;by_cases hlt:m<k
  ·have Hy:(m:Int)<(k:Int):=(by omega);have Ji:IntKind.i64.wrap ((m:Int)+1)=(m:Int)+1:=(by rw[yQZ];omega);have Hb:m<t.parts.length:=(by have:=HK.o;omega);have Hn:m<t.names.length:=(by have:=Hk.o;omega);have J5:(m:Int)<(t.names.length:Int):=(by omega);have Hg:=Sx.sizeL_take_le t.parts m;have H9:=Sx.size_mem (yfZ Hb);obtain⟨g,off,An1,cn1,Ae1,ce1,Aq,cq,rfl,hty,hc5⟩:=HP.o.spot m Hb;obtain⟨g1,off1,rfl,hsp1⟩:=Jf.o.spot m Hn;have Hf:=Sx.methods_take Hk.o Hb;obtain⟨p,hpe⟩:=zE (t.parts[m]'Hb);obtain⟨s,hse⟩:=zE (t.names[m]'Hn);have Hc:p∈t.parts:=(by rw[<-hpe];exact yfZ Hb);rw[hpe]at hc5 hty Hf H9;rw[hse]at hsp1 Hf;have J1:=zh hty;have Hi:=zh hc5;have Hs:=zh hsp1;have J6:=zh Hf;have H8:=zh Hc
   have H6:=zh (show([[105,110,116,101,114,102,97,99,101],[123]]++Sx.methods (t.names.take m) (t.parts.take m)).length+([40]::Sx.params 0 p.parts).length<=50000000 by
    have h1:=Sx.methods_len (t.names.take m) (t.parts.take m);have h2:=Sx.params_len 0 p.parts;have h3:=Sx.size_parts p;have h4:=Ha.o;simp only[ycZ,yhZ,ynZ]
    omega)
   have He:=zh (show(∀q∈p.parts,∃d,Sx.rightT NM d q=true)/\0<p.parts.length/\Sx.sizeL p.parts<=n by
    obtain⟨e',he',hq,hs'⟩:=Sx.right_parts (HR.o p H8.o);refine⟨fun q hq'=>⟨_,hq q hq'⟩,?_,?_⟩
    ·rw[Je.o p H8.o]at hs';simp[Sx.shape]at hs';omega
    ·have:=Sx.size_parts p;have:=Ha.o
     omega)
   clear hty Hf Hc hpe hse hc5 hsp1 Hg H9;go_wp2_with fail;have hB0:Below B w2 wr.drew:=Hd.o.drew;have hO0:OwnS wr.drew B (.slice A5 n5 c5) ([[105,110,116,101,114,102,97,99,101],[123]]++Sx.methods (t.names.take m) (t.parts.take m)):=HO.o;clear x0 x1 x2 x3 x4 J0;obtain⟨Fs,⟨F0,F1,F2,F3,F4,F5,F6,F7,F8,F9,F10,F11,F12,F13,F14,F15,F16,F17,F18,-⟩,hstay⟩:=zrZ [IsF (.slice A5 n5 c5),IsF (.pointer (some ⟨L,2,none⟩)),IsF (.slice (some ⟨g1,off1,none⟩) t.names.length cn),IsF (.int .i64 (m:Int)),IsF (.pointer (some ⟨g1,off1+m,none⟩)),IsF (.string ⟨s.toArray⟩),StrF [s],AppF 0,IsF (.pointer (some ⟨L,4,none⟩)),IsF (.slice (some ⟨g,off,none⟩) k cp),IsF (.int .i64 (m:Int)),IsF (.pointer (some ⟨g,off+m * 5,none⟩)),IsF (.pointer (some ⟨g,off+m * 5+4,none⟩)),IsF (.slice Aq p.parts.length cq),StrF ([40]::Sx.params 0 p.parts),AppF 1,StrF [[59]],AppF 2,AppF 2];obtain⟨Lf,⟨L0,L1,L2,L3,-⟩,hL⟩:=zbdZ (([[105,110,116,101,114,102,97,99,101],[123]]++Sx.methods (t.names.take m) (t.parts.take m))) [[s],([40]::Sx.params 0 p.parts),[[59]]] (by simp only[tot];(have h1:=H6.o;simp only[ycZ,yhZ,ynZ]at *;omega));refine zbbZ (apps:=[7,15,17]) hstay hB0 hO0 L0 L3 F18 ?_ ?_
   ·repeat' first | refine OpsOk.cons ?_ ?_ | fail
    ·exact .m F0 (.z 3 18 [17,15,7,0])
    ·refine OpOk.val rfl rfl F1 RowM.rf fun ρ w r k E hI K hK=>?_;have e1:ρ (.tmp 1)=.pointer (some ⟨L,0,none⟩):=E.n 1 (by kernel_rfl);obtain⟨x0,x1,x2,x3,x4⟩:=zcZ (H4.o w hI.1);rw[HK.o]at x4;have Hj:=zaZ (H4.o w hI.1);go_simp;exact hK
    ·refine OpOk.val rfl rfl F2 RowM.rf fun ρ w r k E hI K hK=>?_;have e50:=E.e 50 1 (by kernel_rfl) F1;obtain⟨x0,x1,x2,x3,x4⟩:=zcZ (H4.o w hI.1);rw[HK.o]at x4;have Hj:=zaZ (H4.o w hI.1);go_simp;exact hK
    ·exact .m F3 (.n 4)
    ·refine OpOk.val rfl rfl F4 RowM.rf fun ρ w r k E hI K hK=>?_;have e51:=E.e 51 2 (by kernel_rfl) F2;have e52:=E.e 52 3 (by kernel_rfl) F3;obtain⟨q0,q1⟩:=Hs.o w (H7.o w hI.1);go_simp;exact hK
    ·refine OpOk.val rfl rfl F5 RowM.rf fun ρ w r k E hI K hK=>?_;have e53:=E.e 53 4 (by kernel_rfl) F4;obtain⟨q0,q1⟩:=Hs.o w (H7.o w hI.1);go_simp;exact hK
    ·exact .o1 H2.o F6 (.f 54 F5)
    ·exact .N0 49 55 H2.o hL F7 L0 L1 F0 F6
    ·refine OpOk.val rfl rfl F8 RowM.rf fun ρ w r k E hI K hK=>?_;have e1:ρ (.tmp 1)=.pointer (some ⟨L,0,none⟩):=E.n 1 (by kernel_rfl);obtain⟨x0,x1,x2,x3,x4⟩:=zcZ (H4.o w hI.1);rw[HK.o]at x4;have Hj:=zaZ (H4.o w hI.1);go_simp;exact hK
    ·refine OpOk.val rfl rfl F9 RowM.rf fun ρ w r k E hI K hK=>?_;have e57:=E.e 57 8 (by kernel_rfl) F8;obtain⟨x0,x1,x2,x3,x4⟩:=zcZ (H4.o w hI.1);rw[HK.o]at x4;have Hj:=zaZ (H4.o w hI.1);go_simp;exact hK
    ·exact .m F10 (.n 4)
    ·refine OpOk.val rfl rfl F11 RowM.rf fun ρ w r k E hI K hK=>?_;have e58:=E.e 58 9 (by kernel_rfl) F9;have e59:=E.e 59 10 (by kernel_rfl) F10;have H0:=Hi.o w (H7.o w hI.1);have hg:=H0.1;have c0:=H0.2.1;have c1:=H0.2.2.1;have c2:=H0.2.2.2.1;have c3:=H0.2.2.2.2.1;have c4:=H0.2.2.2.2.2;clear H0;go_simp;exact hK
    ·refine OpOk.val rfl rfl F12 RowM.rf fun ρ w r k E hI K hK=>?_;have e60:=E.e 60 11 (by kernel_rfl) F11;have H0:=Hi.o w (H7.o w hI.1);have hg:=H0.1;have c0:=H0.2.1;have c1:=H0.2.2.1;have c2:=H0.2.2.2.1;have c3:=H0.2.2.2.2.1;have c4:=H0.2.2.2.2.2;clear H0;go_simp;exact hK
    ·refine OpOk.val rfl rfl F13 RowM.rf fun ρ w r k E hI K hK=>?_;have e61:=E.e 61 12 (by kernel_rfl) F12;have H0:=Hi.o w (H7.o w hI.1);have hg:=H0.1;have c0:=H0.2.1;have c1:=H0.2.2.1;have c2:=H0.2.2.2.1;have c3:=H0.2.2.2.2.1;have c4:=H0.2.2.2.2.2;clear H0;go_simp;exact hK
    ·exact .C H2.o F14 Tryz.func69 (.f 62 F13) fun w hb=>znsZ n (by have:=Ha.o;omega) Ja.o p.parts He.o.2.1 He.o.2.2 He.o.1 (fun q hq=>by obtain⟨d,hd⟩:=He.o.1 q hq;exact Sx.typ_pos hd) _ w (IsTy.row (IsTy.below (H7.o w hb) _ _ J1.o))
    ·exact .N 56 63 H2.o hL F15 L1 L2 F7 F14 (hm:=by simp)
    ·exact .o0 H2.o F16
    ·exact .N 64 65 H2.o hL F17 L2 L3 F15 F16
    ·exact .aa F18 F17 66
    ·exact .nil
   ·intro uq wq rq hBz hOz hz;simp only[yyZ,fillAct,Act.put,yoZ,yzZ,yAZ,hz];clear F0 F1 F2 F3 F4 F5 F6 F7 F8 F9 F10 F11 F12 F13 F14 F15 F16 F17 F18 hstay hL L0 L1 L2 L3 hz;obtain⟨A9,c9,rfl⟩:=hOz.slice;have Jg:=zh hOz;have J8:=zh hBz;clear hOz hBz;go_wp2_with fail;go_roundg (k-(m+1))
    case measure=>have:=HI.o;omega
    case rel=>exact⟨m+1,A9,_,c9,rfl,rfl,by simp,hlt,by rw[J6.o];simpa[yiZ,Sx.sig_eq]using Jg.o,J8.o⟩
  ·have Hy:¬(m:Int)<(k:Int):=(by omega);have H5:Sx.methods (t.names.take m) (t.parts.take m)=Sx.methods t.names t.parts:=(by rw[yjZ (show t.names.length<=m by have:=HK.o;have:=Hk.o;omega),yjZ (show t.parts.length<=m by have:=HK.o;omega)]);have J7:=zh H5
   have H6:=zh (show([[105,110,116,101,114,102,97,99,101],[123]]++Sx.methods (t.names.take m) (t.parts.take m)).length<=50000000 by
    have h1:=Sx.methods_len (t.names.take m) (t.parts.take m);have h2:=Sx.sizeL_take_le t.parts m;have h4:=Ha.o;simp only[ycZ,yhZ,ynZ]
    omega)
   clear H5;obtain⟨wa,hwa⟩:=zE (wr.alloc (.cells #[.string ⟨#[125]⟩] 9));have Hp:OwnS wa B (.slice A5 n5 c5) ([[105,110,116,101,114,102,97,99,101],[123]]++Sx.methods (t.names.take m) (t.parts.take m)):=(by rw[<-hwa];exact HO.o.below ((yqZ _ _).alloc (ybZ _) _));have Ht:Below B w2 wa:=(by rw[<-hwa];exact Hd.o.alloc (ymZ H2.o Hd.o.size) _);have Hr:Str wa (.slice (some ⟨wr.heap.size,0,none⟩) 1 1) [[125]] (.slice A5 n5 c5):=(by rw[<-hwa];exact Str.one (ydZ wr _) (fun q hq=>(HO.o.lt q hq).2));have Hv:=zh Hp;have Hh:=zh Ht;have J3:=zh Hr;clear Hp Ht Hr;go_wp2_with (at_builtin;refine zlZ rfl _ _ rfl rfl rfl Hv.o J3.o (by decide) (by have:=H6.o;simp only[ycZ,yhZ,ynZ]at *;omega) (ymZ H2.o Hh.o.size) ?_;intro r5 w5 hO5 Hm;have hB5:=zyZ Hh.o (ymZ H2.o Hh.o.size) Hm (fun g hg=>(Hv.o.lt g hg).1);have Jc:=zh hO5;have Hx:=zh hB5;clear hO5 hB5 Hm);go_ret;subst hL;exact⟨_,rfl,by rw[HT.o,<-J7.o];exact Jc.o.base_le J9.o,H7.o _ Hx.o⟩
theorem zxsZ (n:Nat) (hn:n+1<=1000000) (ih:TypedOk n) (t:Sx.Ty) (hsz0:Sx.size t<=n+1) (hr0:∃d,Sx.rightT NM d t=true) (hkd:t.kind=6) (v:Value) (W:World) (ht:IsTy W v t):TypedIs t v W:=by
 unfold TypedIs;obtain⟨An,cn,Ae,ce,Ap,cp,rfl,hnm,hem,hp⟩:=ht.agg;obtain⟨d,hr⟩:=hr0;obtain⟨d',rfl,hr',hsh⟩:=Sx.right_parts hr;rw[hkd]at hsh ht ⊢;have Jj:=Sx.size_parts t;have J2:Sx.sizeL t.parts<=n:=by omega
 have Ji:=Sx.length_size t.parts;have J7:t.names.length=t.parts.length:=by simp[Sx.shape]at hsh;omega
 have Hw:=zh J7;have J3:t.embeds.length=t.parts.length:=by simp[Sx.shape]at hsh;omega
 have Ht:=zh J3;have HT:=zh (show Sx.typ t=[[123]]++Sx.fields t.names t.embeds t.parts++[[125]]by rw[Sx.typ_eq,hkd];simp);have J6:=zh ih;have HR:=zh hr';have Ho:=zh (show Sx.sizeL t.parts<=n/\n+1<=1000000 from⟨J2,hn⟩);obtain⟨L,hL⟩:=zE (W.heap.size);obtain⟨w2,hw2⟩:=zE (W.alloc (.cells #[.int .i64 6,.string ⟨t.name.toArray⟩,.slice An t.names.length cn,.slice Ae t.embeds.length ce,.slice Ap t.parts.length cp] 26));have H6:w2.heap[L]? =some (.cells #[.int .i64 6,.string ⟨t.name.toArray⟩,.slice An t.names.length cn,.slice Ae t.embeds.length ce,.slice Ap t.parts.length cp] 26 (0,0)):=by rw[<-hw2,<-hL];exact ydZ W _
 have J8:Below L W w2:=by rw[<-hw2,<-hL];exact(yqZ _ _).alloc (ybZ _) _
 obtain⟨B,hB⟩:=zE (w2.heap.size);have hLB:L<B:=by rw[<-hB];exact zaZ H6
 have H1:=zh (show B<=w2.heap.size by rw[hB];exact ybZ _);have H4:=zh (fun X (h:Below B w2 X)=>(show Below W.heap.size W X by rw[hL];exact J8.trans (h.mono (yYZ hLB))));have Jh:=zh (show W.heap.size<=B by rw[hL];exact yYZ hLB);have H2:=zh (fun X (h:Below B w2 X)=>(show X.heap[L]? =some (.cells #[.int .i64 6,.string ⟨t.name.toArray⟩,.slice An t.names.length cn,.slice Ae t.embeds.length ce,.slice Ap t.parts.length cp] 26 (0,0))from(h.block L hLB).trans H6));have Ja:=zh (show Below B w2 w2 from yqZ _ _);have HP:=zh hp;have Jk:=zh hnm;have Jd:=zh hem;obtain⟨x0,x1,x2,x3,x4⟩:=zcZ H6;have Jp:=zaZ H6;clear ih hr hr' ht hp hnm hem Jj J2 H6 J8 hsh hkd hsz0 hn J7 J3;go_enter Tryz.func28, Tryz.ntmps28;obtain⟨k,hk⟩:=zE (t.parts.length);have Jm:(k:Int)<=1000000:=by have:=Ho.o;omega
 have HK:=zh hk;clear Ji;rw[hk]at x4;obtain⟨w3,hw3⟩:=zE (w2.alloc (.cells #[.string ⟨#[123]⟩] 9));have J0:Below B w2 w3:=by rw[<-hw3];exact Ja.o.alloc H1.o _
 have Hy:OwnS w3 B (.slice (some ⟨B,0,none⟩) 1 1) ([[123]]++Sx.fields (t.names.take 0) (t.embeds.take 0) (t.parts.take 0)):=by rw[<-hw3];have:=OwnS.arr (B:=B) (l:=[[123]]) (ydZ w2 (.cells #[.string ⟨#[123]⟩] 9)) rfl (by simp[maxLen]) H1.o;rw[hB]at this;simpa[Sx.fields,Sx.methods]using this
 have Jb:=zh Hy;have Jc:=zh J0;clear Hy J0 hk;go_wp2_with fail;go_loopg [5,6] k (fun i v3 v4 wr=>∃(m:Nat) (A5:Option Addr) (n5 c5:Nat),i=k-m/\v3=.slice A5 n5 c5/\v4=.int .i64 (m:Nat)/\m<=k/\OwnS wr B (.slice A5 n5 c5) ([[123]]++Sx.fields (t.names.take m) (t.embeds.take m) (t.parts.take m))/\Below B w2 wr)
 case atStart=>exact⟨0,some ⟨B,0,none⟩,1,1,rfl,rfl,rfl,yxZ _,Jb.o,Jc.o⟩
 case round=>
  obtain⟨m,A5,n5,c5,hi,rfl,rfl,hm,ho,hb⟩:=hrel;have HI:=zh hi;have HO:=zh ho;have H8:=zh hb;have m0:(0:Int)<=(m:Int):=(by omega);have m1:(m:Int)<=1000000:=(by omega);clear hi ho hb x0 x1 x2 x3 x4;have H3:=H2.o wr H8.o;rw[HK.o]at H3;obtain⟨x0,x1,x2,x3,x4⟩:=zcZ H3;have Hn:=zaZ H3;clear H3;by_cases hlt:m<k
  ·have J9:(m:Int)<(k:Int):=(by omega);have Jn:IntKind.i64.wrap ((m:Int)+1)=(m:Int)+1:=(by rw[yQZ];omega);have Hh:m<t.parts.length:=(by have:=HK.o;omega);have Hz:m<t.names.length:=(by have:=Hw.o;omega);have Je:(m:Int)<(t.names.length:Int):=(by omega);have J4:m<t.embeds.length:=(by have:=Ht.o;omega);have Jf:(m:Int)<(t.embeds.length:Int):=(by omega);have Hs:=Sx.sizeL_take_le t.parts m;have Hg:=Sx.size_mem (yfZ Hh);obtain⟨g,off,An1,cn1,Ae1,ce1,Aq,cq,rfl,hty,hc5⟩:=HP.o.spot m Hh;obtain⟨g1,off1,rfl,hsp1⟩:=Jk.o.spot m Hz;obtain⟨g2,off2,rfl,hsp2⟩:=Jd.o.spot m J4;have Hj:=Sx.fields_take Hw.o Ht.o Hh;obtain⟨p,hpe⟩:=zE (t.parts[m]'Hh);obtain⟨s,hse⟩:=zE (t.names[m]'Hz);have Hk:p∈t.parts:=(by rw[<-hpe];exact yfZ Hh);rw[hpe]at hc5 hty Hj Hg;rw[hse]at hsp1 Hj;obtain⟨e,hee⟩:=zE (t.embeds[m]'J4);rw[hee]at hsp2 Hj;have Jl:=zh hsp2;have J1:=zh hty;have Hp:=zh hc5;have Hq:=zh hsp1;have J5:=zh Hj;have Hf:=zh Hk
   have H5:=zh (show([[123]]++Sx.fields (t.names.take m) (t.embeds.take m) (t.parts.take m)).length+(Sx.typ p).length<=50000000 by
    have h1:=Sx.fields_len (t.names.take m) (t.embeds.take m) (t.parts.take m);have h2:=Sx.typ_len p;have h4:=Ho.o;simp only[ycZ,yhZ,ynZ]
    omega)
   have Hb:=zh (show Sx.size p<=n/\(∃d,Sx.rightT NM d p=true)/\0<(Sx.typ p).length from⟨by have:=Ho.o;omega,⟨_,HR.o p Hf.o⟩,Sx.typ_pos (HR.o p Hf.o)⟩);clear hty Hj Hk hpe hse hc5 hsp1 Hs Hg hee hsp2;obtain⟨z0,z1⟩:=Jl.o wr (H4.o wr H8.o)
   cases e with
   | true=>
    obtain⟨wa,hwa⟩:=zE (wr.alloc (.cells #[.string ⟨#[101,109,98,101,100]⟩] 9));have He:OwnS wa B (.slice A5 n5 c5) ([[123]]++Sx.fields (t.names.take m) (t.embeds.take m) (t.parts.take m)):=(by rw[<-hwa];exact HO.o.below ((yqZ _ _).alloc (ybZ _) _));have Hl:Below B w2 wa:=(by rw[<-hwa];exact H8.o.alloc (ymZ H1.o H8.o.size) _);have Hi:Str wa (.slice (some ⟨wr.heap.size,0,none⟩) 1 1) [[101,109,98,101,100]] (.slice A5 n5 c5):=(by rw[<-hwa];exact Str.one (ydZ wr _) (fun q hq=>(HO.o.lt q hq).2));have Hm:=zh He;have H9:=zh Hl;have Hu:=zh Hi;clear He Hl Hi;go_wp2_with (at_builtin;refine zlZ rfl _ _ rfl rfl rfl Hm.o Hu.o (by decide) (by have:=H5.o;simp only[ycZ,yhZ,ynZ]at *;omega) (ymZ H1.o H9.o.size) ?_;intro r5 w5 hO5 Hd;have hB5:=zyZ H9.o (ymZ H1.o H9.o.size) Hd (fun g hg=>(Hm.o.lt g hg).1);have Hr:=zh hO5;have Hc:=zh hB5;clear hO5 hB5 Hd x0 x1 x2 x3 x4 Hn z0 z1;obtain⟨x0,x1,x2,x3,x4⟩:=zcZ (H2.o w5 Hc.o);rw[HK.o]at x4;have Hn:=zaZ (H2.o w5 Hc.o));obtain⟨A6,c6,rfl⟩:=Hr.o.slice;have hB0:Below B w2 w5.drew:=Hc.o.drew;have hO0:OwnS w5.drew B (.slice A6 (([[123]]++Sx.fields (t.names.take m) (t.embeds.take m) (t.parts.take m))++[[101,109,98,101,100]]).length c6) (([[123]]++Sx.fields (t.names.take m) (t.embeds.take m) (t.parts.take m))++[[101,109,98,101,100]]):=Hr.o;clear x0 x1 x2 x3 x4 Hn;obtain⟨Fs,⟨F0,F1,F2,F3,F4,F5,F6,F7,F8,F9,F10,F11,F12,F13,F14,F15,F16,F17,-⟩,hstay⟩:=zrZ [IsF (.slice A6 (([[123]]++Sx.fields (t.names.take m) (t.embeds.take m) (t.parts.take m))++[[101,109,98,101,100]]).length c6),IsF (.pointer (some ⟨L,2,none⟩)),IsF (.slice (some ⟨g1,off1,none⟩) t.names.length cn),IsF (.int .i64 (m:Int)),IsF (.pointer (some ⟨g1,off1+m,none⟩)),IsF (.string ⟨s.toArray⟩),StrF [s],AppF 0,IsF (.pointer (some ⟨L,4,none⟩)),IsF (.slice (some ⟨g,off,none⟩) k cp),IsF (.int .i64 (m:Int)),IsF (.pointer (some ⟨g,off+m * 5,none⟩)),IsF (.agg #[.int .i64 p.kind,.string ⟨p.name.toArray⟩,.slice An1 p.names.length cn1,.slice Ae1 p.embeds.length ce1,.slice Aq p.parts.length cq]),StrF (Sx.typ p),AppF 1,StrF [[59]],AppF 2,AppF 2];obtain⟨Lf,⟨L0,L1,L2,L3,-⟩,hL⟩:=zbdZ ((([[123]]++Sx.fields (t.names.take m) (t.embeds.take m) (t.parts.take m))++[[101,109,98,101,100]])) [[s],(Sx.typ p),[[59]]] (by simp only[tot];(have h1:=H5.o;simp only[ycZ,yhZ,ynZ]at *;omega));refine zbbZ (apps:=[7,14,16]) hstay hB0 hO0 L0 L3 F17 ?_ ?_
    ·repeat' first | refine OpsOk.cons ?_ ?_ | fail
     ·exact .m F0 (.z 5 17 [16,14,7,0])
     ·refine OpOk.val rfl rfl F1 RowM.rf fun ρ w r k E hI K hK=>?_;have e1:ρ (.tmp 1)=.pointer (some ⟨L,0,none⟩):=E.n 1 (by kernel_rfl);obtain⟨x0,x1,x2,x3,x4⟩:=zcZ (H2.o w hI.1);rw[HK.o]at x4;have Ha:=zaZ (H2.o w hI.1);go_simp;exact hK
     ·refine OpOk.val rfl rfl F2 RowM.rf fun ρ w r k E hI K hK=>?_;have e87:=E.e 87 1 (by kernel_rfl) F1;obtain⟨x0,x1,x2,x3,x4⟩:=zcZ (H2.o w hI.1);rw[HK.o]at x4;have Ha:=zaZ (H2.o w hI.1);go_simp;exact hK
     ·exact .m F3 (.n 6)
     ·refine OpOk.val rfl rfl F4 RowM.rf fun ρ w r k E hI K hK=>?_;have e88:=E.e 88 2 (by kernel_rfl) F2;have e89:=E.e 89 3 (by kernel_rfl) F3;obtain⟨q0,q1⟩:=Hq.o w (H4.o w hI.1);go_simp;exact hK
     ·refine OpOk.val rfl rfl F5 RowM.rf fun ρ w r k E hI K hK=>?_;have e90:=E.e 90 4 (by kernel_rfl) F4;obtain⟨q0,q1⟩:=Hq.o w (H4.o w hI.1);go_simp;exact hK
     ·exact .o1 H1.o F6 (.f 91 F5)
     ·exact .N0 86 92 H1.o hL F7 L0 L1 F0 F6
     ·refine OpOk.val rfl rfl F8 RowM.rf fun ρ w r k E hI K hK=>?_;have e1:ρ (.tmp 1)=.pointer (some ⟨L,0,none⟩):=E.n 1 (by kernel_rfl);obtain⟨x0,x1,x2,x3,x4⟩:=zcZ (H2.o w hI.1);rw[HK.o]at x4;have Ha:=zaZ (H2.o w hI.1);go_simp;exact hK
     ·refine OpOk.val rfl rfl F9 RowM.rf fun ρ w r k E hI K hK=>?_;have e94:=E.e 94 8 (by kernel_rfl) F8;obtain⟨x0,x1,x2,x3,x4⟩:=zcZ (H2.o w hI.1);rw[HK.o]at x4;have Ha:=zaZ (H2.o w hI.1);go_simp;exact hK
     ·exact .m F10 (.n 6)
     ·refine OpOk.val rfl rfl F11 RowM.rf fun ρ w r k E hI K hK=>?_;have e95:=E.e 95 9 (by kernel_rfl) F9;have e96:=E.e 96 10 (by kernel_rfl) F10;have H0:=Hp.o w (H4.o w hI.1);have hg:=H0.1;have c0:=H0.2.1;have c1:=H0.2.2.1;have c2:=H0.2.2.2.1;have c3:=H0.2.2.2.2.1;have c4:=H0.2.2.2.2.2;clear H0;go_simp;exact hK
     ·refine OpOk.val rfl rfl F12 RowM.rf fun ρ w r k E hI K hK=>?_;have e97:=E.e 97 11 (by kernel_rfl) F11;have H0:=Hp.o w (H4.o w hI.1);have hg:=H0.1;have c0:=H0.2.1;have c1:=H0.2.2.1;have c2:=H0.2.2.2.1;have c3:=H0.2.2.2.2.1;have c4:=H0.2.2.2.2.2;clear H0;go_simp;exact hK
     ·exact .C H1.o F13 Tryz.func28 (.f 98 F12) fun w hb=>J6.o p Hb.o.1 Hb.o.2.1 _ w (IsTy.below (H4.o w hb) _ _ J1.o)
     ·exact .N 93 99 H1.o hL F14 L1 L2 F7 F13 (hm:=Hb.o.2.2)
     ·exact .o0 H1.o F15
     ·exact .N 100 101 H1.o hL F16 L2 L3 F14 F15
     ·exact .aa F17 F16 102
     ·exact .nil
    ·intro uq wq rq hBz hOz hz;simp only[yyZ,fillAct,Act.put,yoZ,yzZ,yAZ,hz];clear F0 F1 F2 F3 F4 F5 F6 F7 F8 F9 F10 F11 F12 F13 F14 F15 F16 F17 hstay hL L0 L1 L2 L3 hz;obtain⟨A9,c9,rfl⟩:=hOz.slice;have Hx:=zh hOz;have Hv:=zh hBz;clear hOz hBz;go_wp2_with fail;go_roundg (k-(m+1))
     case measure=>have:=HI.o;omega
     case rel=>exact⟨m+1,A9,_,c9,rfl,rfl,by simp,hlt,by rw[J5.o];simpa[yiZ]using Hx.o,Hv.o⟩
   | false=>
    go_wp2_with fail
    clear z0 z1;have hB0:Below B w2 wr.drew:=H8.o.drew;have hO0:OwnS wr.drew B (.slice A5 n5 c5) ([[123]]++Sx.fields (t.names.take m) (t.embeds.take m) (t.parts.take m)):=HO.o;clear x0 x1 x2 x3 x4 Hn;obtain⟨Fs,⟨F0,F1,F2,F3,F4,F5,F6,F7,F8,F9,F10,F11,F12,F13,F14,F15,F16,F17,-⟩,hstay⟩:=zrZ [IsF (.slice A5 n5 c5),IsF (.pointer (some ⟨L,2,none⟩)),IsF (.slice (some ⟨g1,off1,none⟩) t.names.length cn),IsF (.int .i64 (m:Int)),IsF (.pointer (some ⟨g1,off1+m,none⟩)),IsF (.string ⟨s.toArray⟩),StrF [s],AppF 0,IsF (.pointer (some ⟨L,4,none⟩)),IsF (.slice (some ⟨g,off,none⟩) k cp),IsF (.int .i64 (m:Int)),IsF (.pointer (some ⟨g,off+m * 5,none⟩)),IsF (.agg #[.int .i64 p.kind,.string ⟨p.name.toArray⟩,.slice An1 p.names.length cn1,.slice Ae1 p.embeds.length ce1,.slice Aq p.parts.length cq]),StrF (Sx.typ p),AppF 1,StrF [[59]],AppF 2,AppF 2];obtain⟨Lf,⟨L0,L1,L2,L3,-⟩,hL⟩:=zbdZ (([[123]]++Sx.fields (t.names.take m) (t.embeds.take m) (t.parts.take m))) [[s],(Sx.typ p),[[59]]] (by simp only[tot];(have h1:=H5.o;simp only[ycZ,yhZ,ynZ]at *;omega));refine zbbZ (apps:=[7,14,16]) hstay hB0 hO0 L0 L3 F17 ?_ ?_
    ·repeat' first | refine OpsOk.cons ?_ ?_ | fail
     ·exact .m F0 (.z 5 17 [16,14,7,0])
     ·refine OpOk.val rfl rfl F1 RowM.rf fun ρ w r k E hI K hK=>?_;have e1:ρ (.tmp 1)=.pointer (some ⟨L,0,none⟩):=E.n 1 (by kernel_rfl);obtain⟨x0,x1,x2,x3,x4⟩:=zcZ (H2.o w hI.1);rw[HK.o]at x4;have Ha:=zaZ (H2.o w hI.1);go_simp;exact hK
     ·refine OpOk.val rfl rfl F2 RowM.rf fun ρ w r k E hI K hK=>?_;have e87:=E.e 87 1 (by kernel_rfl) F1;obtain⟨x0,x1,x2,x3,x4⟩:=zcZ (H2.o w hI.1);rw[HK.o]at x4;have Ha:=zaZ (H2.o w hI.1);go_simp;exact hK
     ·exact .m F3 (.n 6)
     ·refine OpOk.val rfl rfl F4 RowM.rf fun ρ w r k E hI K hK=>?_;have e88:=E.e 88 2 (by kernel_rfl) F2;have e89:=E.e 89 3 (by kernel_rfl) F3;obtain⟨q0,q1⟩:=Hq.o w (H4.o w hI.1);go_simp;exact hK
     ·refine OpOk.val rfl rfl F5 RowM.rf fun ρ w r k E hI K hK=>?_;have e90:=E.e 90 4 (by kernel_rfl) F4;obtain⟨q0,q1⟩:=Hq.o w (H4.o w hI.1);go_simp;exact hK
     ·exact .o1 H1.o F6 (.f 91 F5)
     ·exact .N0 86 92 H1.o hL F7 L0 L1 F0 F6
     ·refine OpOk.val rfl rfl F8 RowM.rf fun ρ w r k E hI K hK=>?_;have e1:ρ (.tmp 1)=.pointer (some ⟨L,0,none⟩):=E.n 1 (by kernel_rfl);obtain⟨x0,x1,x2,x3,x4⟩:=zcZ (H2.o w hI.1);rw[HK.o]at x4;have Ha:=zaZ (H2.o w hI.1);go_simp;exact hK
     ·refine OpOk.val rfl rfl F9 RowM.rf fun ρ w r k E hI K hK=>?_;have e94:=E.e 94 8 (by kernel_rfl) F8;obtain⟨x0,x1,x2,x3,x4⟩:=zcZ (H2.o w hI.1);rw[HK.o]at x4;have Ha:=zaZ (H2.o w hI.1);go_simp;exact hK
     ·exact .m F10 (.n 6)
     ·refine OpOk.val rfl rfl F11 RowM.rf fun ρ w r k E hI K hK=>?_;have e95:=E.e 95 9 (by kernel_rfl) F9;have e96:=E.e 96 10 (by kernel_rfl) F10;have H0:=Hp.o w (H4.o w hI.1);have hg:=H0.1;have c0:=H0.2.1;have c1:=H0.2.2.1;have c2:=H0.2.2.2.1;have c3:=H0.2.2.2.2.1;have c4:=H0.2.2.2.2.2;clear H0;go_simp;exact hK
     ·refine OpOk.val rfl rfl F12 RowM.rf fun ρ w r k E hI K hK=>?_;have e97:=E.e 97 11 (by kernel_rfl) F11;have H0:=Hp.o w (H4.o w hI.1);have hg:=H0.1;have c0:=H0.2.1;have c1:=H0.2.2.1;have c2:=H0.2.2.2.1;have c3:=H0.2.2.2.2.1;have c4:=H0.2.2.2.2.2;clear H0;go_simp;exact hK
     ·exact .C H1.o F13 Tryz.func28 (.f 98 F12) fun w hb=>J6.o p Hb.o.1 Hb.o.2.1 _ w (IsTy.below (H4.o w hb) _ _ J1.o)
     ·exact .N 93 99 H1.o hL F14 L1 L2 F7 F13 (hm:=Hb.o.2.2)
     ·exact .o0 H1.o F15
     ·exact .N 100 101 H1.o hL F16 L2 L3 F14 F15
     ·exact .aa F17 F16 102
     ·exact .nil
    ·intro uq wq rq hBz hOz hz;simp only[yyZ,fillAct,Act.put,yoZ,yzZ,yAZ,hz];clear F0 F1 F2 F3 F4 F5 F6 F7 F8 F9 F10 F11 F12 F13 F14 F15 F16 F17 hstay hL L0 L1 L2 L3 hz;obtain⟨A9,c9,rfl⟩:=hOz.slice;have Hx:=zh hOz;have Hv:=zh hBz;clear hOz hBz;go_wp2_with fail;go_roundg (k-(m+1))
     case measure=>have:=HI.o;omega
     case rel=>exact⟨m+1,A9,_,c9,rfl,rfl,by simp,hlt,by rw[J5.o];simpa[yiZ]using Hx.o,Hv.o⟩
  ·have J9:¬(m:Int)<(k:Int):=(by omega);have H7:Sx.fields (t.names.take m) (t.embeds.take m) (t.parts.take m)=Sx.fields t.names t.embeds t.parts:=(by rw[yjZ (show t.names.length<=m by have:=HK.o;have:=Hw.o;omega),yjZ (show t.embeds.length<=m by have:=HK.o;have:=Ht.o;omega),yjZ (show t.parts.length<=m by have:=HK.o;omega)]);have Jg:=zh H7
   have H5:=zh (show([[123]]++Sx.fields (t.names.take m) (t.embeds.take m) (t.parts.take m)).length<=50000000 by
    have h1:=Sx.fields_len (t.names.take m) (t.embeds.take m) (t.parts.take m);have h2:=Sx.sizeL_take_le t.parts m;have h4:=Ho.o;simp only[ycZ,yhZ,ynZ]
    omega)
   clear H7;obtain⟨wa,hwa⟩:=zE (wr.alloc (.cells #[.string ⟨#[125]⟩] 9));have He:OwnS wa B (.slice A5 n5 c5) ([[123]]++Sx.fields (t.names.take m) (t.embeds.take m) (t.parts.take m)):=(by rw[<-hwa];exact HO.o.below ((yqZ _ _).alloc (ybZ _) _));have Hl:Below B w2 wa:=(by rw[<-hwa];exact H8.o.alloc (ymZ H1.o H8.o.size) _);have Hi:Str wa (.slice (some ⟨wr.heap.size,0,none⟩) 1 1) [[125]] (.slice A5 n5 c5):=(by rw[<-hwa];exact Str.one (ydZ wr _) (fun q hq=>(HO.o.lt q hq).2));have Hm:=zh He;have H9:=zh Hl;have Hu:=zh Hi;clear He Hl Hi;go_wp2_with (at_builtin;refine zlZ rfl _ _ rfl rfl rfl Hm.o Hu.o (by decide) (by have:=H5.o;simp only[ycZ,yhZ,ynZ]at *;omega) (ymZ H1.o H9.o.size) ?_;intro r5 w5 hO5 Hd;have hB5:=zyZ H9.o (ymZ H1.o H9.o.size) Hd (fun g hg=>(Hm.o.lt g hg).1);have Hr:=zh hO5;have Hc:=zh hB5;clear hO5 hB5 Hd);go_ret;subst hL;exact⟨_,rfl,by rw[HT.o,<-Jg.o];exact Hr.o.base_le Jh.o,H4.o _ Hc.o⟩
theorem zhsZ:∀n:Nat,n<=1000000->TypedOk n:=by
 intro n
 induction n with
 | zero=>intro _ t h;have:=Sx.size_pos t;omega
 | succ n ih=>
  intro hn t H0 hr v W ht;have ih:=ih (by omega);obtain⟨d,hd⟩:=id hr;obtain⟨d',-,-,hsh⟩:=Sx.right_parts hd;rcases Sx.shape_kind hsh with hk | hk | hk | hk | hk | hk | hk | hk
  ·exact zxlZ n hn ih t H0 hr hk v W ht
  ·exact zxmZ n hn ih t H0 hr hk v W ht
  ·exact zxnZ n hn ih t H0 hr hk v W ht
  ·exact zxoZ n hn ih t H0 hr hk v W ht
  ·exact zxpZ n hn ih t H0 hr hk v W ht
  ·exact zxsZ n hn ih t H0 hr hk v W ht
  ·exact zxqZ n hn ih t H0 hr hk v W ht
  ·exact zxrZ n hn ih t H0 hr hk v W ht
structure Boxed (W:World) (cs:Array Value) (L B:Nat) (w2:World):Prop where
 box:w2.heap[L]? =some (.cells cs 39 (0,0))
 bb:B<=w2.heap.size
 be:w2.heap.size=B
 wx:∀X,Below B w2 X->Below W.heap.size W X
 gx:∀X,Below B w2 X->GL X/\NG<=X.heap.size
 wb:W.heap.size<=B
 bx:∀X,Below B w2 X->X.heap[L]? =some (.cells cs 39 (0,0))
 r2:Below B w2 w2
 o1:∀s:Lx.Bytes,OwnS (w2.alloc (.cells #[.string ⟨s.toArray⟩] 9)) B (.slice (some ⟨B,0,none⟩) 1 1) [s]
theorem boxed {W:World} (hG:GL W) (hN:NG<=W.heap.size) (cs:Array Value):∃L B w2,W.heap.size=L/\W.alloc (.cells cs 39)=w2/\w2.heap.size=B/\Hid (Boxed W cs L B w2):=by
 refine⟨_,_,_,rfl,rfl,rfl,?_⟩;obtain⟨w2,hw2⟩:=zE (W.alloc (.cells cs 39));rw[hw2];have H0:w2.heap[W.heap.size]? =some (.cells cs 39 (0,0)):=by rw[<-hw2];exact ydZ W _
 have H2:Below W.heap.size W w2:=by rw[<-hw2];exact(yqZ _ _).alloc (ybZ _) _
 have hLB:=zaZ H0;have H1:∀X,Below w2.heap.size w2 X->Below W.heap.size W X:=fun X h=>H2.trans (h.mono (yYZ hLB));exact⟨H0,ybZ _,rfl,H1,fun X h=>⟨hG.below (H1 X h),ymZ hN (H1 X h).size⟩,yYZ hLB,fun X h=>(h.block _ hLB).trans H0,yqZ _ _,fun s=>OwnS.one (ydZ w2 _) (ybZ _)⟩
section
variable {ops:Array Oper} {Q:Exit->Act->World->Prop} {a:Act} {apps:List Nat} {Fs:List (Value->World->Value->Nat->Prop)} {i:Nat} {o:Oper} {B:Nat} {W:World} {R0:Value} {Ls:Nat->List Lx.Bytes} {W0:World} {cs:Array Value} {L:Nat}
end
end Go.Proofs.YtdncljdfmdgdaaaGreatDoor
namespace Go.Proofs.YtdncljdfmdgdaaaGreatDoor
open Go.RowKit
theorem zcfZ (b:UInt8) (w:World):Calls Tryz.prog 164 #[.int .u8 (b.toNat:Int)] w fun e w'=>e=.returned (.bool (Lx.small b))/\w=w':=by
 go_enter Tryz.func164, Tryz.ntmps164
 go_wp2
 all_goals
  go_ret;refine⟨zbfZ ?_,rfl⟩;rw[yEZ];simp[Lx.small];omega
theorem zbpZ (b:UInt8) (w:World):Calls Tryz.prog 165 #[.int .u8 (b.toNat:Int)] w fun e w'=>e=.returned (.bool (Lx.great b))/\w=w':=by
 go_enter Tryz.func165, Tryz.ntmps165
 go_wp2
 all_goals
  go_ret;refine⟨zbfZ ?_,rfl⟩;rw[yEZ];simp[Lx.great];omega
theorem zbvZ (b:UInt8) (w:World):Calls Tryz.prog 166 #[.int .u8 (b.toNat:Int)] w fun e w'=>e=.returned (.bool (Lx.digit b))/\w=w':=by
 go_enter Tryz.func166, Tryz.ntmps166
 go_wp2
 all_goals
  go_ret;refine⟨zbfZ ?_,rfl⟩;rw[yEZ];simp[Lx.digit];omega
theorem zntZ (b:UInt8) (w:World):Calls Tryz.prog 123 #[.int .u8 (b.toNat:Int)] w fun e w'=>e=.returned (.bool (Lx.saidB b))/\w=w':=by
 go_enter Tryz.func123, Tryz.ntmps123
 go_wp2
 all_goals
  go_ret;refine⟨zbfZ ?_,rfl⟩;rw[yEZ];simp[Lx.saidB];omega
def plainB (c:UInt8):Bool:=decide (32<=c.toNat)&&(decide (c.toNat<=126)&&(!(c.toNat==34)&&!(c.toNat==92)))
theorem ztpZ (b:UInt8) (w:World):Calls Tryz.prog 182 #[.int .u8 (b.toNat:Int)] w fun e w'=>e=.returned (.bool (plainB b))/\w=w':=by
 go_enter Tryz.func182, Tryz.ntmps182
 go_wp2
 all_goals
  go_ret;refine⟨zbfZ ?_,rfl⟩;rw[yEZ];simp[plainB];omega
theorem zhtZ (b:UInt8) (w:World):Calls Tryz.prog 180 #[.int .u8 (b.toNat:Int)] w fun e w'=>e=.returned (.bool (Lx.within b))/\w=w':=by
 go_enter Tryz.func180, Tryz.ntmps180
 cases hs:Lx.small b <;> cases hg:Lx.great b <;> cases hd:Lx.digit b
 all_goals
  have HW:=zh (show Lx.within b=((Lx.small b||Lx.great b)||Lx.digit b||b.toNat==95)from rfl);rw[hs,hg,hd]at HW
  go_wp2_with (first
   | (go_at_call 164;refine(zcfZ _ _).mono ?_;rw[hs];rintro e w' ⟨rfl,rfl⟩)
   | (go_at_call 165;refine(zbpZ _ _).mono ?_;rw[hg];rintro e w' ⟨rfl,rfl⟩)
   | (go_at_call 166;refine(zbvZ _ _).mono ?_;rw[hd];rintro e w' ⟨rfl,rfl⟩))
  go_ret;refine⟨zbfZ ?_,rfl⟩;rw[HW.o]
  first | rfl | (rw[yEZ];simp;try omega)
end Go.Proofs.YtdncljdfmdgdaaaGreatDoor
