/-
  The walk of rightType.
-/
import Derived.Test.YtdncljdfmdgdaaaGreatDoorM12
set_option linter.unusedSimpArgs false
set_option linter.unusedVariables false
set_option maxRecDepth 100000
set_option maxHeartbeats 16000000
namespace Go.Proofs.YtdncljdfmdgdaaaGreatDoor
open Go.RowKit Go.Shelf Go.WideMaps
theorem Sx.right_zero (N:Sx.Names) (t:Sx.Ty):Sx.rightT N 0 t=false:=by cases t;simp[Sx.rightT]
def Sx.plain (t:Sx.Ty):Bool:=t.name.isEmpty&&(t.names.isEmpty&&t.embeds.isEmpty)
theorem Sx.right_eq (N:Sx.Names) (d:Nat) (t:Sx.Ty):Sx.rightT N (d+1) t=(Sx.rightTs N d t.parts&&Sx.shape N t.kind t.name t.names t.embeds t.parts):=by cases t;rw[Sx.rightT];rfl
theorem Sx.rights_all (N:Sx.Names) (d:Nat):∀ {l:List Sx.Ty},(∀p∈l,Sx.rightT N d p=true)->Sx.rightTs N d l=true
 | [],_=>by rw[Sx.rightTs]
 | t::l,h=>by rw[Sx.rightTs,h t (ysZ ..),Sx.rights_all N d fun p hp=>h p (ywZ _ hp)];rfl
theorem Sx.rights_not (N:Sx.Names) (d:Nat) {l:List Sx.Ty} {p:Sx.Ty} (hp:p∈l) (h:Sx.rightT N d p=false):Sx.rightTs N d l=false:=by
 cases hr:Sx.rightTs N d l with
 | false=>rfl
 | true=>rw[Sx.rights_mem hr p hp]at h;cases h
theorem Sx.len0 {α:Type} (l:List α):l.isEmpty=(l.length==0):=by cases l <;> rfl
theorem Sx.shape1 {N:Sx.Names} {t:Sx.Ty} : Sx.shape N 1 t.name t.names t.embeds t.parts=(Sx.plain t&&(t.parts.length==0)):=by simp[Sx.shape,Sx.plain,Sx.len0,Bool.and_assoc]
theorem Sx.shape2 {N:Sx.Names} {t:Sx.Ty} : Sx.shape N 2 t.name t.names t.embeds t.parts=(Sx.plain t&&(t.parts.length==0)):=by simp[Sx.shape,Sx.plain,Sx.len0,Bool.and_assoc]
theorem Sx.shape3 {N:Sx.Names} {t:Sx.Ty} : Sx.shape N 3 t.name t.names t.embeds t.parts=(Sx.plain t&&(t.parts.length==0)):=by simp[Sx.shape,Sx.plain,Sx.len0,Bool.and_assoc]
theorem Sx.shape4 {N:Sx.Names} {t:Sx.Ty} : Sx.shape N 4 t.name t.names t.embeds t.parts=(N.great t.name&&((t.names.length==0)&&((t.embeds.length==0)&&(t.parts.length==0)))):=by simp[Sx.shape,Sx.len0,Bool.and_assoc]
theorem Sx.shape5 {N:Sx.Names} {t:Sx.Ty} : Sx.shape N 5 t.name t.names t.embeds t.parts=(Sx.plain t&&(t.parts.length==1)):=by simp[Sx.shape,Sx.plain,Sx.len0,Bool.and_assoc]
theorem Sx.shape7 {N:Sx.Names} {t:Sx.Ty} : Sx.shape N 7 t.name t.names t.embeds t.parts=(Sx.plain t&&decide (1<=t.parts.length)):=by simp[Sx.shape,Sx.plain,Sx.len0,Bool.and_assoc]
theorem Sx.shape6 {N:Sx.Names} {t:Sx.Ty} : Sx.shape N 6 t.name t.names t.embeds t.parts=(t.name.isEmpty&&((t.embeds.length==t.names.length)&&((t.parts.length==t.names.length)&&Sx.apart N t.names))):=by simp[Sx.shape,Bool.and_assoc]
theorem Sx.shape8 {N:Sx.Names} {t:Sx.Ty} : Sx.shape N 8 t.name t.names t.embeds t.parts=((t.parts.all fun p=>p.kind==7)&&(t.name.isEmpty&&((t.embeds.length==0)&&((t.parts.length==t.names.length)&&Sx.apart N t.names)))):=by simp[Sx.shape,Sx.len0,Bool.and_assoc]
def RightOk (d:Nat):Prop:=∀(t:Sx.Ty) (v:Value) (W:World),GS W->NG<=W.heap.size->IsTy W v t->Sx.size t<=1000000->
 Calls Tryz.prog 58 #[v,.int .i64 (d:Nat)] W fun e W'=>e=.returned (.bool (Sx.rightT NM d t))/\Below W.heap.size W W'
theorem zppZ:RightOk 0:=by
 intro t v W hG hN ht H0;obtain⟨An,cn,Ae,ce,Ap,cp,rfl,-,-,-⟩:=ht.agg;go_enter Tryz.func58, Tryz.ntmps58;go_wp2_with fail;go_ret;rw[Sx.right_zero];exact⟨rfl,zeZ (yeZ W _ _)⟩
theorem zpqZ (d:Nat) (hd:d+1<=64) (ih:RightOk d):RightOk (d+1):=by
 intro t v W hG hN ht Jm;obtain⟨An,cn,Ae,ce,Ap,cp,rfl,hnm,hem,hp⟩:=ht.agg;obtain⟨e,he⟩:∃e:Int,((d+1:Nat):Int)=e:=⟨_,rfl⟩;have Jw:(e==0)=false:=by rw[yaZ];omega
 have Jp:1<=e:=by omega
 have Js:e<=64:=by omega
 have Ho:∀(p:Sx.Ty) (u:Value) (X:World),GS X->NG<=X.heap.size->IsTy X u p->Sx.size p<=1000000->
   Calls Tryz.prog 58 #[u,.int .i64 (e-1)] X fun e X'=>e=.returned (.bool (Sx.rightT NM d p))/\Below X.heap.size X X':=by
  intro p u X h1 h2 h3 h4;rw[show e-1=(d:Int)by omega];exact ih p u X h1 h2 h3 h4
 have J7:=Sx.size_parts t;have Hw:=Sx.length_size t.parts;have Hq:=zh (Sx.right_eq NM d t);obtain⟨k,hk⟩:=zE (t.parts.length);obtain⟨kd,hkd⟩:=zE (t.kind);have Jr:(k:Int)<=1000000:=by omega
 have Jt:(t.names.length:Int)<=1000000:=by omega
 have U0:(t.embeds.length:Int)<=1000000:=by omega
 have Ju:(0:Int)<=(k:Int):=by omega
 have U1:(0:Int)<=(t.names.length:Int):=by omega
 have Jo:(0:Int)<=(t.embeds.length:Int):=by omega
 rw[he,hk,hkd];rw[hk]at hp;have HK:=zh hk;have H3:=zh hkd;have J0:=zh Ho;have HG:=zh hG;have Hm:=zh (show Sx.size t<=1000000/\t.name.length+t.names.length<=1000000 by omega);have Jk:=zh J7;have HP:=zh hp;have Jb:=zh hnm;obtain⟨L,hL⟩:=zE (W.heap.size);have hNL:NG<=L:=by omega
 obtain⟨w2,hw2⟩:=zE (W.alloc (.cells #[.int .i64 kd,.string ⟨t.name.toArray⟩,.slice An t.names.length cn,.slice Ae t.embeds.length ce,.slice Ap k cp] 26));have Hd:w2.heap[L]? =some (.cells #[.int .i64 kd,.string ⟨t.name.toArray⟩,.slice An t.names.length cn,.slice Ae t.embeds.length ce,.slice Ap k cp] 26 (0,0)):=by rw[<-hw2,<-hL];exact ydZ W _
 have Hs:Below L W w2:=by rw[<-hw2,<-hL];exact zeZ (yeZ W _ none)
 have J9:=zh Hd;have Jg:=zh Hs;have HL:=zh hL;obtain⟨x0,x1,x2,x3,x4⟩:=zcZ Hd;have Jv:=zaZ Hd;clear ih hG ht hnm hem hp he Ho J7 Hw hk hkd Hd Hs Jm;go_enter Tryz.func58, Tryz.ntmps58;go_wp2_with fail;clear x0 x1 x2 x3 x4;go_loopg [18] k (fun i v wr=>∃(m:Nat),i=k-m/\v=.int .i64 (m:Int)/\m<=k/\Below L W wr/\wr.heap[L]? =w2.heap[L]? /\(∀p∈t.parts.take m,Sx.rightT NM d p=true))
 case atStart=>exact⟨0,rfl,rfl,yxZ _,Jg.o,rfl,by simp⟩
 case round=>
  obtain⟨m,hi,rfl,hm,hwr,hbr,hall⟩:=hrel;rw[J9.o]at hbr;obtain⟨x0,x1,x2,x3,x4⟩:=zcZ hbr;have Jf:=zaZ hbr;have hLs:L<=wr.heap.size:=(by have:=hwr.size;have:=HL.o;omega);have HI:=zh hi;have Hy:=zh hwr;have H8:=zh hbr;have Hh:=zh hall;have m0:(0:Int)<=(m:Int):=(by omega);clear hi hwr hbr hall;by_cases hlt:m<k
  ·have Je:(m:Int)<(k:Int):=(by omega);have Hu:m<t.parts.length:=(by have:=HK.o;omega);obtain⟨g,off,An1,cn1,Ae1,ce1,Aq,cq,rfl,hty,hc5⟩:=HP.o.spot m Hu;rw[HL.o]at hc5;obtain⟨hg,c0,c1,c2,c3,c4⟩:=hc5 wr Hy.o;have Hi:=ykZ Hu;obtain⟨p,Hc⟩:=zE (t.parts[m]'Hu);have H6:p∈t.parts:=(by rw[<-Hc];exact yfZ Hu);rw[Hc]at c0 c1 c2 c3 c4 Hi hty;have Jl:=Sx.parts_mem (l:=[t]) (t:=t) (by simp);have Jc:Sx.size p<=1000000:=(by have:=Sx.size_mem H6;have:=Jk.o;have:=Hm.o;omega);have Jd:=zh Jc;have Hj:=zh H6;have Hx:=zh Hi;have Jh:=zh hty;obtain⟨w4,hw4⟩:=zE (wr.alloc (.cells #[.int .i64 p.kind,.string ⟨p.name.toArray⟩,.slice An1 p.names.length cn1,.slice Ae1 p.embeds.length ce1,.slice Aq p.parts.length cq] 26));have H9:w4.heap[wr.heap.size]? =some (.cells #[.int .i64 p.kind,.string ⟨p.name.toArray⟩,.slice An1 p.names.length cn1,.slice Ae1 p.embeds.length ce1,.slice Aq p.parts.length cq] 26 (0,0)):=(by rw[<-hw4];exact ydZ wr _);have J2:Below wr.heap.size wr w4:=(by rw[<-hw4];exact zeZ (yeZ wr _ none));have Jz:=zaZ H9;obtain⟨y0,y1,y2,y3,y4⟩:=zcZ H9;have hB4:Below L W w4:=Hy.o.trans (J2.mono hLs);have J5:=J0.o p _ w4 (HG.o.below (by rw[HL.o];exact hB4)) (by omega) (Jh.o.below (by rw[HL.o];exact hB4)) Jd.o;have Hv:=zh J5;have J8:=zh hB4;have J1:=zh ((J2.block L Jf).trans H8.o);have hL4:L<w4.heap.size:=(by omega);clear hty hc5 Hc H6 Hi Jl Jc J5 hB4 J2 H9
   cases hpr:Sx.rightT NM d p with
   | true=>
    rw[hpr]at Hv;have Jn:=zh hpr;clear hpr;go_wp2_with (go_at_call 58;refine Hv.o.mono ?_;rintro e w5 ⟨rfl,H4⟩);go_roundg (k-(m+1))
    case measure=>have:=HI.o;omega
    case rel=>
     refine⟨m+1,rfl,by simp,hlt,J8.o.trans (H4.mono (by omega)),?_,?_⟩
     ·rw[J9.o,H4.block L hL4,J1.o]
     ·rw[Hx.o];intro q hq;rcases yfbZ.1 hq with h | h
      ·exact Hh.o q h
      ·rw[yWZ]at h;rw[h];exact Jn.o
   | false=>rw[hpr]at Hv;have HF:=zh (show Sx.rightT NM (d+1) t=false by rw[Hq.o,Sx.rights_not NM d Hj.o hpr];rfl);clear hpr;go_wp2_with (go_at_call 58;refine Hv.o.mono ?_;rintro e w5 ⟨rfl,H4⟩);go_ret;rw[HF.o,HL.o];exact⟨rfl,J8.o.trans (H4.mono (by omega))⟩
  ·have Je:¬(m:Int)<(k:Int):=by omega
   have H2:=zh (show Sx.rightT NM (d+1) t=Sx.shape NM t.kind t.name t.names t.embeds t.parts by
    rw[Hq.o,Sx.rights_all NM d]
    ·rfl
    ·have h:=Hh.o
     rwa [yjZ (by have:=HK.o;omega)]at h)
   go_wp2_with fail
   go_quiet (fail)
   obtain⟨w3,hw3⟩:=zE (wr.drewN nq);have Hr:Below L W w3:=(by rw[<-hw3];exact Hy.o.trans ⟨rfl,rfl,rfl,ybZ _,fun _ _=>rfl⟩);have Ha:w3.heap[L]? =wr.heap[L]? :=(by rw[<-hw3];rfl);rw[H8.o]at Ha;rw[hw3];clear x0 x1 x2 x3 x4 H8 hw3;obtain⟨x0,x1,x2,x3,x4⟩:=zcZ Ha;have Hz:=zaZ Ha;have H8:=zh Ha;have H0:=zh Hr;clear Ha Hr;go_upto_region 10 with fail
   go_cut [10] (fun v wx=>v=.bool (Sx.plain t)/\wx=w3)
   case first=>
    have Hc:Sx.plain t=(t.name.isEmpty&&((t.names.length==0)&&(t.embeds.length==0))):=(by unfold Sx.plain;cases t.names <;> cases t.embeds <;> rfl);have Ht:=zh Hc;clear Hc
    cases hb1:t.name.isEmpty with
    | false=>
     go_wp2_with fail
     go_meet
     exact⟨by rw[Ht.o,hb1];rfl,rfl⟩
    | true=>
     by_cases Hs:t.names.length=0
     ·have b2:((t.names.length:Int)==0)=true:=(by rw[ytZ];omega);have Hg:=zh (show(t.names.length==0)=true by rw[ytZ];omega);clear Hs;by_cases hb3:t.embeds.length=0
      ·have b3:((t.embeds.length:Int)==0)=true:=(by rw[ytZ];omega);have Hk:=zh (show(t.embeds.length==0)=true by rw[ytZ];omega);clear hb3;go_wp2_with fail
       go_meet
       exact⟨by rw[Ht.o,hb1,Hg.o,Hk.o];rfl,rfl⟩
      ·have b3:((t.embeds.length:Int)==0)=false:=(by rw[yaZ];omega);have Hk:=zh (show(t.embeds.length==0)=false by rw[yaZ];omega);clear hb3;go_wp2_with fail
       go_meet
       exact⟨by rw[Ht.o,hb1,Hg.o,Hk.o];rfl,rfl⟩
     ·have b2:((t.names.length:Int)==0)=false:=(by rw[yaZ];omega);have Hg:=zh (show(t.names.length==0)=false by rw[yaZ];omega);clear Hs;go_wp2_with fail
      go_meet
      exact⟨by rw[Ht.o,hb1,Hg.o];rfl,rfl⟩
   case rest=>
    obtain⟨rfl,hwc⟩:=hcut;subst hwc;have U2:=H2;by_cases hk1:kd=1
    ·subst hk1;have H1:=HK.o
     cases hpl:Sx.plain t with
     | true=>
      by_cases hc:k=0
      ·have bhc:((k:Int)==0)=true:=(by rw[ytZ];omega);have Hhc:=zh (show(t.parts.length==0)=true by rw[ytZ];omega);clear hc;clear H1;have HS:=zh (show Sx.shape NM 1 t.name t.names t.embeds t.parts=true by rw[Sx.shape1,hpl,Hhc.o];rfl);go_wp2_with fail;go_ret;refine⟨?_,by first | exact H0.o | (rw[HL.o];exact H0.o)⟩;rw[H2.o,H3.o,HS.o];rfl
      ·have bhc:((k:Int)==0)=false:=(by rw[yaZ];omega);have Hhc:=zh (show(t.parts.length==0)=false by rw[yaZ];omega);clear hc;clear H1;have HS:=zh (show Sx.shape NM 1 t.name t.names t.embeds t.parts=false by rw[Sx.shape1,hpl,Hhc.o];rfl);go_wp2_with fail;go_ret;refine⟨?_,by first | exact H0.o | (rw[HL.o];exact H0.o)⟩;rw[H2.o,H3.o,HS.o];rfl
     | false=>clear H1;have HS:=zh (show Sx.shape NM 1 t.name t.names t.embeds t.parts=false by rw[Sx.shape1,hpl];rfl);go_wp2_with fail;go_ret;refine⟨?_,by first | exact H0.o | (rw[HL.o];exact H0.o)⟩;rw[H2.o,H3.o,HS.o];rfl
    by_cases hk2:kd=2
    ·subst hk2;have H1:=HK.o
     cases hpl:Sx.plain t with
     | true=>
      by_cases hc:k=0
      ·have bhc:((k:Int)==0)=true:=(by rw[ytZ];omega);have Hhc:=zh (show(t.parts.length==0)=true by rw[ytZ];omega);clear hc;clear H1;have HS:=zh (show Sx.shape NM 2 t.name t.names t.embeds t.parts=true by rw[Sx.shape2,hpl,Hhc.o];rfl);go_wp2_with fail;go_ret;refine⟨?_,by first | exact H0.o | (rw[HL.o];exact H0.o)⟩;rw[H2.o,H3.o,HS.o];rfl
      ·have bhc:((k:Int)==0)=false:=(by rw[yaZ];omega);have Hhc:=zh (show(t.parts.length==0)=false by rw[yaZ];omega);clear hc;clear H1;have HS:=zh (show Sx.shape NM 2 t.name t.names t.embeds t.parts=false by rw[Sx.shape2,hpl,Hhc.o];rfl);go_wp2_with fail;go_ret;refine⟨?_,by first | exact H0.o | (rw[HL.o];exact H0.o)⟩;rw[H2.o,H3.o,HS.o];rfl
     | false=>clear H1;have HS:=zh (show Sx.shape NM 2 t.name t.names t.embeds t.parts=false by rw[Sx.shape2,hpl];rfl);go_wp2_with fail;go_ret;refine⟨?_,by first | exact H0.o | (rw[HL.o];exact H0.o)⟩;rw[H2.o,H3.o,HS.o];rfl
    by_cases hk3:kd=3
    ·subst hk3;have H1:=HK.o
     cases hpl:Sx.plain t with
     | true=>
      by_cases hc:k=0
      ·have bhc:((k:Int)==0)=true:=(by rw[ytZ];omega);have Hhc:=zh (show(t.parts.length==0)=true by rw[ytZ];omega);clear hc;clear H1;have HS:=zh (show Sx.shape NM 3 t.name t.names t.embeds t.parts=true by rw[Sx.shape3,hpl,Hhc.o];rfl);go_wp2_with fail;go_ret;refine⟨?_,by first | exact H0.o | (rw[HL.o];exact H0.o)⟩;rw[H2.o,H3.o,HS.o];rfl
      ·have bhc:((k:Int)==0)=false:=(by rw[yaZ];omega);have Hhc:=zh (show(t.parts.length==0)=false by rw[yaZ];omega);clear hc;clear H1;have HS:=zh (show Sx.shape NM 3 t.name t.names t.embeds t.parts=false by rw[Sx.shape3,hpl,Hhc.o];rfl);go_wp2_with fail;go_ret;refine⟨?_,by first | exact H0.o | (rw[HL.o];exact H0.o)⟩;rw[H2.o,H3.o,HS.o];rfl
     | false=>clear H1;have HS:=zh (show Sx.shape NM 3 t.name t.names t.embeds t.parts=false by rw[Sx.shape3,hpl];rfl);go_wp2_with fail;go_ret;refine⟨?_,by first | exact H0.o | (rw[HL.o];exact H0.o)⟩;rw[H2.o,H3.o,HS.o];rfl
    by_cases hk5:kd=5
    ·subst hk5;have H1:=HK.o
     cases hpl:Sx.plain t with
     | true=>
      by_cases hc:k=1
      ·have bhc:((k:Int)==1)=true:=(by rw[ytZ];omega);have Hhc:=zh (show(t.parts.length==1)=true by rw[ytZ];omega);clear hc;clear H1;have HS:=zh (show Sx.shape NM 5 t.name t.names t.embeds t.parts=true by rw[Sx.shape5,hpl,Hhc.o];rfl);go_wp2_with fail;go_ret;refine⟨?_,by first | exact H0.o | (rw[HL.o];exact H0.o)⟩;rw[H2.o,H3.o,HS.o];rfl
      ·have bhc:((k:Int)==1)=false:=(by rw[yaZ];omega);have Hhc:=zh (show(t.parts.length==1)=false by rw[yaZ];omega);clear hc;clear H1;have HS:=zh (show Sx.shape NM 5 t.name t.names t.embeds t.parts=false by rw[Sx.shape5,hpl,Hhc.o];rfl);go_wp2_with fail;go_ret;refine⟨?_,by first | exact H0.o | (rw[HL.o];exact H0.o)⟩;rw[H2.o,H3.o,HS.o];rfl
     | false=>clear H1;have HS:=zh (show Sx.shape NM 5 t.name t.names t.embeds t.parts=false by rw[Sx.shape5,hpl];rfl);go_wp2_with fail;go_ret;refine⟨?_,by first | exact H0.o | (rw[HL.o];exact H0.o)⟩;rw[H2.o,H3.o,HS.o];rfl
    by_cases hk7:kd=7
    ·subst hk7;have H1:=HK.o
     cases hpl:Sx.plain t with
     | true=>
      by_cases hc:1<=k
      ·have bhc:decide ((1:Int)<=(k:Int))=true:=(by rw[yCZ];omega);have Hhc:=zh (show decide (1<=t.parts.length)=true by rw[yCZ];omega);clear hc;clear H1;have HS:=zh (show Sx.shape NM 7 t.name t.names t.embeds t.parts=true by rw[Sx.shape7,hpl,Hhc.o];rfl);go_wp2_with fail;go_ret;refine⟨?_,by first | exact H0.o | (rw[HL.o];exact H0.o)⟩;rw[H2.o,H3.o,HS.o];rfl
      ·have bhc:decide ((1:Int)<=(k:Int))=false:=(by rw[yvZ];omega);have Hhc:=zh (show decide (1<=t.parts.length)=false by rw[yvZ];omega);clear hc;clear H1;have HS:=zh (show Sx.shape NM 7 t.name t.names t.embeds t.parts=false by rw[Sx.shape7,hpl,Hhc.o];rfl);go_wp2_with fail;go_ret;refine⟨?_,by first | exact H0.o | (rw[HL.o];exact H0.o)⟩;rw[H2.o,H3.o,HS.o];rfl
     | false=>clear H1;have HS:=zh (show Sx.shape NM 7 t.name t.names t.embeds t.parts=false by rw[Sx.shape7,hpl];rfl);go_wp2_with fail;go_ret;refine⟨?_,by first | exact H0.o | (rw[HL.o];exact H0.o)⟩;rw[H2.o,H3.o,HS.o];rfl
    by_cases hk4:kd=4
    ·subst hk4;have H1:=HK.o;have hWs:=H0.o.size;have J6:=zspZ t.name wc (HG.o.below (by rw[HL.o];exact H0.o)) (by omega) (by have:=Hm.o;omega);have Hl:=zh J6;clear J6
     cases hg:NM.great t.name with
     | true=>
      rw[hg]at Hl;by_cases h1:t.names.length=0
      ·have bh1:((t.names.length:Int)==0)=true:=(by rw[ytZ];omega);have Hh1:=zh (show(t.names.length==0)=true by rw[ytZ];omega);clear h1;by_cases h2:t.embeds.length=0
       ·have bh2:((t.embeds.length:Int)==0)=true:=(by rw[ytZ];omega);have Hh2:=zh (show(t.embeds.length==0)=true by rw[ytZ];omega);clear h2;by_cases h3:k=0
        ·have bh3:((k:Int)==0)=true:=(by rw[ytZ];omega);have Hh3:=zh (show(t.parts.length==0)=true by rw[ytZ];omega);clear h3;clear H1;have HS:=zh (show Sx.shape NM 4 t.name t.names t.embeds t.parts=true by rw[Sx.shape4,hg,Hh1.o,Hh2.o,Hh3.o];rfl);go_wp2_with (go_at_call 107;refine Hl.o.mono ?_;rintro e w5 ⟨rfl,H4⟩);go_ret;refine⟨?_,by first | exact H0.o.trans (H4.mono (by omega)) | (rw[HL.o];exact H0.o.trans (H4.mono (by omega)))⟩;rw[H2.o,H3.o,HS.o];rfl
        ·have bh3:((k:Int)==0)=false:=(by rw[yaZ];omega);have Hh3:=zh (show(t.parts.length==0)=false by rw[yaZ];omega);clear h3;clear H1;have HS:=zh (show Sx.shape NM 4 t.name t.names t.embeds t.parts=false by rw[Sx.shape4,hg,Hh1.o,Hh2.o,Hh3.o];rfl);go_wp2_with (go_at_call 107;refine Hl.o.mono ?_;rintro e w5 ⟨rfl,H4⟩);go_ret;refine⟨?_,by first | exact H0.o.trans (H4.mono (by omega)) | (rw[HL.o];exact H0.o.trans (H4.mono (by omega)))⟩;rw[H2.o,H3.o,HS.o];rfl
       ·have bh2:((t.embeds.length:Int)==0)=false:=(by rw[yaZ];omega);have Hh2:=zh (show(t.embeds.length==0)=false by rw[yaZ];omega);clear h2;clear H1;have HS:=zh (show Sx.shape NM 4 t.name t.names t.embeds t.parts=false by rw[Sx.shape4,hg,Hh1.o,Hh2.o];rfl);go_wp2_with (go_at_call 107;refine Hl.o.mono ?_;rintro e w5 ⟨rfl,H4⟩);go_ret;refine⟨?_,by first | exact H0.o.trans (H4.mono (by omega)) | (rw[HL.o];exact H0.o.trans (H4.mono (by omega)))⟩;rw[H2.o,H3.o,HS.o];rfl
      ·have bh1:((t.names.length:Int)==0)=false:=(by rw[yaZ];omega);have Hh1:=zh (show(t.names.length==0)=false by rw[yaZ];omega);clear h1;clear H1;have HS:=zh (show Sx.shape NM 4 t.name t.names t.embeds t.parts=false by rw[Sx.shape4,hg,Hh1.o];rfl);go_wp2_with (go_at_call 107;refine Hl.o.mono ?_;rintro e w5 ⟨rfl,H4⟩);go_ret;refine⟨?_,by first | exact H0.o.trans (H4.mono (by omega)) | (rw[HL.o];exact H0.o.trans (H4.mono (by omega)))⟩;rw[H2.o,H3.o,HS.o];rfl
     | false=>rw[hg]at Hl;clear H1;have HS:=zh (show Sx.shape NM 4 t.name t.names t.embeds t.parts=false by rw[Sx.shape4,hg];rfl);go_wp2_with (go_at_call 107;refine Hl.o.mono ?_;rintro e w5 ⟨rfl,H4⟩);go_ret;refine⟨?_,by first | exact H0.o.trans (H4.mono (by omega)) | (rw[HL.o];exact H0.o.trans (H4.mono (by omega)))⟩;rw[H2.o,H3.o,HS.o];rfl
    by_cases hk6:kd=6
    ·subst hk6;have H1:=HK.o;have hWs:=H0.o.size;have Hn:=zgdZ t.names (.slice An t.names.length cn) wc (HG.o.below (by rw[HL.o];exact H0.o)) (by omega) (Jb.o.below (by rw[HL.o];exact H0.o)) (by have:=Hm.o;omega) (fun s hs=>by have:=Sx.name_len hs;have:=Hm.o.1;omega);have He:=zh Hn;clear Hn
     cases hn:t.name.isEmpty with
     | true=>
      by_cases h1:t.embeds.length=t.names.length
      ·have bh1:((t.embeds.length:Int)==(t.names.length:Int))=true:=(by rw[ytZ];omega);have Hh1:=zh (show(t.embeds.length==t.names.length)=true by rw[ytZ];omega);clear h1;by_cases h2:k=t.names.length
       ·have bh2:((k:Int)==(t.names.length:Int))=true:=(by rw[ytZ];omega);have Hh2:=zh (show(t.parts.length==t.names.length)=true by rw[ytZ];omega);clear h2
        cases hu:Sx.apart NM t.names with
        | true=>rw[hu]at He;clear H1;have HS:=zh (show Sx.shape NM 6 t.name t.names t.embeds t.parts=true by rw[Sx.shape6,hn,Hh1.o,Hh2.o,hu];rfl);go_wp2_with (go_at_call 108;refine He.o.mono ?_;rintro e w5 ⟨rfl,H4⟩);go_ret;refine⟨?_,by first | exact H0.o.trans (H4.mono (by omega)) | (rw[HL.o];exact H0.o.trans (H4.mono (by omega)))⟩;rw[H2.o,H3.o,HS.o];rfl
        | false=>rw[hu]at He;clear H1;have HS:=zh (show Sx.shape NM 6 t.name t.names t.embeds t.parts=false by rw[Sx.shape6,hn,Hh1.o,Hh2.o,hu];rfl);go_wp2_with (go_at_call 108;refine He.o.mono ?_;rintro e w5 ⟨rfl,H4⟩);go_ret;refine⟨?_,by first | exact H0.o.trans (H4.mono (by omega)) | (rw[HL.o];exact H0.o.trans (H4.mono (by omega)))⟩;rw[H2.o,H3.o,HS.o];rfl
       ·have bh2:((k:Int)==(t.names.length:Int))=false:=(by rw[yaZ];omega);have Hh2:=zh (show(t.parts.length==t.names.length)=false by rw[yaZ];omega);clear h2;clear H1;have HS:=zh (show Sx.shape NM 6 t.name t.names t.embeds t.parts=false by rw[Sx.shape6,hn,Hh1.o,Hh2.o];rfl);go_wp2_with fail;go_ret;refine⟨?_,by first | exact H0.o | (rw[HL.o];exact H0.o)⟩;rw[H2.o,H3.o,HS.o];rfl
      ·have bh1:((t.embeds.length:Int)==(t.names.length:Int))=false:=(by rw[yaZ];omega);have Hh1:=zh (show(t.embeds.length==t.names.length)=false by rw[yaZ];omega);clear h1;clear H1;have HS:=zh (show Sx.shape NM 6 t.name t.names t.embeds t.parts=false by rw[Sx.shape6,hn,Hh1.o];rfl);go_wp2_with fail;go_ret;refine⟨?_,by first | exact H0.o | (rw[HL.o];exact H0.o)⟩;rw[H2.o,H3.o,HS.o];rfl
     | false=>clear H1;have HS:=zh (show Sx.shape NM 6 t.name t.names t.embeds t.parts=false by rw[Sx.shape6,hn];rfl);go_wp2_with fail;go_ret;refine⟨?_,by first | exact H0.o | (rw[HL.o];exact H0.o)⟩;rw[H2.o,H3.o,HS.o];rfl
    by_cases hk8:kd=8
    ·subst hk8;go_wp2_with fail;go_loopg [115] k (fun i v wq=>∃(m:Nat),i=k-m/\v=.int .i64 (m:Int)/\m<=k/\Below wc.heap.size wc wq/\(∀p∈t.parts.take m,p.kind=7))
     case atStart=>exact⟨0,rfl,rfl,yxZ _,yqZ _ _,by simp⟩
     case round=>
      obtain⟨m2,hi2,rfl,hm2,hbq,hr2⟩:=hrel;have Jj:=zh hi2;have Ji:=zh hbq;have J4:=zh hr2;have m20:(0:Int)<=(m2:Int):=(by omega);have hWs:=H0.o.size;have Jx:=hbq.size;have H5:=zh (show Below L W wr from H0.o.trans (hbq.mono (by omega)));have Hp:=zh ((hbq.block L Hz).trans H8.o);clear x0 x1 x2 x3 x4 hi2 hbq hr2;obtain⟨x0,x1,x2,x3,x4⟩:=zcZ Hp.o;have Jy:=zaZ Hp.o;by_cases hlt2:m2<k
      ·have J3:(m2:Int)<(k:Int):=(by omega);have Hf:m2<t.parts.length:=(by have:=HK.o;omega);obtain⟨g,off,An1,cn1,Ae1,ce1,Aq,cq,rfl,hty,hc5⟩:=HP.o.spot m2 Hf;rw[HL.o]at hc5;obtain⟨hg,c0,c1,c2,c3,c4⟩:=hc5 wr H5.o;have Hi:=ykZ Hf;obtain⟨p,Hc⟩:=zE (t.parts[m2]'Hf);have H6:p∈t.parts:=(by rw[<-Hc];exact yfZ Hf);rw[Hc]at c0 c1 c2 c3 c4 Hi;obtain⟨kp,hkp⟩:=zE (p.kind);rw[hkp]at c0;have Hj:=zh H6;have Hx:=zh Hi;have Ja:=zh hkp;clear hty hc5 Hc H6 Hi hkp;by_cases h7:kp=7
       ·have b7:(kp != 7)=false:=(by simp[h7]);have H7:=zh h7;clear h7;go_wp2_with fail;go_roundg (k-(m2+1))
        case measure=>have:=Jj.o;omega
        case rel=>
         refine⟨m2+1,rfl,by simp,hlt2,Ji.o.trans (zeZ (yeZ wr _ none) |>.mono (by omega)),?_⟩;rw[Hx.o];intro q hq;rcases yfbZ.1 hq with h | h
         ·exact J4.o q h
         ·rw[yWZ]at h;rw[h,Ja.o,H7.o]
       ·have b7:(kp != 7)=true:=by simp[h7]
        have HS:=zh (show Sx.shape NM 8 t.name t.names t.embeds t.parts=false by
         rw[Sx.shape8];have:(t.parts.all fun p=>p.kind==7)=false:=by rw[List.all_eq_false];exact⟨p,Hj.o,by simp[Ja.o,h7]⟩
         rw[this];rfl)
        clear h7;go_wp2_with fail;go_ret;refine⟨?_,by first | exact H5.o.trans (zeZ (yeZ wr _ none) |>.mono (by omega)) | (rw[HL.o];exact H5.o.trans (zeZ (yeZ wr _ none) |>.mono (by omega)))⟩;rw[H2.o,H3.o,HS.o];rfl
      ·have J3:¬(m2:Int)<(k:Int):=by omega
       have Hb:=zh (show(t.parts.all fun p=>p.kind==7)=true by
        rw[yZZ];intro p hp;have:=J4.o p (by rw[yjZ (by have:=HK.o;omega)];exact hp)
        simp[this])
       have H1:=HK.o;have Hn:=zgdZ t.names (.slice An t.names.length cn) wr (HG.o.below (by rw[HL.o];exact H5.o)) (by omega) (Jb.o.below (by rw[HL.o];exact H5.o)) (by have:=Hm.o;omega) (fun s hs=>by have:=Sx.name_len hs;have:=Hm.o.1;omega);have He:=zh Hn;clear Hn
       cases hn:t.name.isEmpty with
       | true=>
        by_cases h1:t.embeds.length=0
        ·have bh1:((t.embeds.length:Int)==0)=true:=(by rw[ytZ];omega);have Hh1:=zh (show(t.embeds.length==0)=true by rw[ytZ];omega);clear h1;by_cases h2:k=t.names.length
         ·have bh2:((k:Int)==(t.names.length:Int))=true:=(by rw[ytZ];omega);have Hh2:=zh (show(t.parts.length==t.names.length)=true by rw[ytZ];omega);clear h2
          cases hu:Sx.apart NM t.names with
          | true=>rw[hu]at He;clear H1;have HS:=zh (show Sx.shape NM 8 t.name t.names t.embeds t.parts=true by rw[Sx.shape8,Hb.o,hn,Hh1.o,Hh2.o,hu];rfl);go_wp2_with (go_at_call 108;refine He.o.mono ?_;rintro e w5 ⟨rfl,H4⟩);go_ret;refine⟨?_,by first | exact H5.o.trans (H4.mono (by omega)) | (rw[HL.o];exact H5.o.trans (H4.mono (by omega)))⟩;rw[H2.o,H3.o,HS.o];rfl
          | false=>rw[hu]at He;clear H1;have HS:=zh (show Sx.shape NM 8 t.name t.names t.embeds t.parts=false by rw[Sx.shape8,Hb.o,hn,Hh1.o,Hh2.o,hu];rfl);go_wp2_with (go_at_call 108;refine He.o.mono ?_;rintro e w5 ⟨rfl,H4⟩);go_ret;refine⟨?_,by first | exact H5.o.trans (H4.mono (by omega)) | (rw[HL.o];exact H5.o.trans (H4.mono (by omega)))⟩;rw[H2.o,H3.o,HS.o];rfl
         ·have bh2:((k:Int)==(t.names.length:Int))=false:=(by rw[yaZ];omega);have Hh2:=zh (show(t.parts.length==t.names.length)=false by rw[yaZ];omega);clear h2;clear H1;have HS:=zh (show Sx.shape NM 8 t.name t.names t.embeds t.parts=false by rw[Sx.shape8,Hb.o,hn,Hh1.o,Hh2.o];rfl);go_wp2_with fail;go_ret;refine⟨?_,by first | exact H5.o | (rw[HL.o];exact H5.o)⟩;rw[H2.o,H3.o,HS.o];rfl
        ·have bh1:((t.embeds.length:Int)==0)=false:=(by rw[yaZ];omega);have Hh1:=zh (show(t.embeds.length==0)=false by rw[yaZ];omega);clear h1;clear H1;have HS:=zh (show Sx.shape NM 8 t.name t.names t.embeds t.parts=false by rw[Sx.shape8,Hb.o,hn,Hh1.o];rfl);go_wp2_with fail;go_ret;refine⟨?_,by first | exact H5.o | (rw[HL.o];exact H5.o)⟩;rw[H2.o,H3.o,HS.o];rfl
       | false=>clear H1;have HS:=zh (show Sx.shape NM 8 t.name t.names t.embeds t.parts=false by rw[Sx.shape8,Hb.o,hn];rfl);go_wp2_with fail;go_ret;refine⟨?_,by first | exact H5.o | (rw[HL.o];exact H5.o)⟩;rw[H2.o,H3.o,HS.o];rfl
    have e1:(kd==1)=false:=(by simp[hk1]);have e2:(kd==2)=false:=(by simp[hk2]);have e3:(kd==3)=false:=(by simp[hk3]);have e4:(kd==4)=false:=(by simp[hk4]);have e5:(kd==5)=false:=(by simp[hk5]);have e6:(kd==6)=false:=(by simp[hk6]);have e7:(kd==7)=false:=(by simp[hk7]);have e8:(kd==8)=false:=(by simp[hk8]);have HS:=zh (show Sx.shape NM kd t.name t.names t.embeds t.parts=false by unfold Sx.shape;rw[if_neg (by omega),if_neg hk4,if_neg hk5,if_neg hk7,if_neg hk6,if_neg hk8]);clear hk1 hk2 hk3 hk4 hk5 hk6 hk7 hk8;go_wp2_with fail;go_ret;refine⟨?_,by first | exact H0.o | (rw[HL.o];exact H0.o)⟩;rw[H2.o,H3.o,HS.o];rfl
theorem zfbZ:∀d:Nat,d<=64->RightOk d
 | 0,_=>zppZ
 | d+1,h=>zpqZ d h (zfbZ d (by omega))
end Go.Proofs.YtdncljdfmdgdaaaGreatDoor
