/-
  The walk of rightType.
-/
import Derived.Test.YtdncljdfmdgdaaaGreatDoorM1
import Derived.Test.YtdncljdfmdgdaaaGreatDoorM8
import Derived.Test.YtdncljdfmdgdaaaGreatDoorM6
set_option linter.unusedSimpArgs false
set_option linter.unusedVariables false
set_option maxRecDepth 100000
set_option maxHeartbeats 16000000
namespace Go.Proofs.YtdncljdfmdgdaaaGreatDoor
open Go.RowKit Go.Shelf Go.WideMaps
theorem Sx.right_zero (N:Sx.Names) (t:Sx.Ty):Sx.rightT N 0 t=false:=by cases t;simp[Sx.rightT]
def Sx.plain (t:Sx.Ty):Bool:=t.name.isEmpty&&(t.names.isEmpty&&t.embeds.isEmpty)
theorem Sx.right_eq (N:Sx.Names) (d:Nat) (t:Sx.Ty):Sx.rightT N (d+1) t=(Sx.rightTs N d t.parts&&Sx.shape N t.kind t.name t.names t.embeds t.parts):=by cases t;rw[Sx.rightT];rfl
theorem Sx.rights_all (N:Sx.Names) (d:Nat):∀ {l:List Sx.Ty},(∀p∈l,Sx.rightT N d p=true)->Sx.rightTs N d l=true
 | [],_=>by rw[Sx.rightTs]
 | t::l,h=>by rw[Sx.rightTs,h t (ysZ ..),Sx.rights_all N d fun p hp=>h p (ywZ _ hp)];rfl
theorem Sx.rights_not (N:Sx.Names) (d:Nat) {l:List Sx.Ty} {p:Sx.Ty} (hp:p∈l) (h:Sx.rightT N d p=false):Sx.rightTs N d l=false:=by
 cases hr:Sx.rightTs N d l with
 | false=>rfl
 | true=>rw[Sx.rights_mem hr p hp]at h;cases h
theorem Sx.len0 {α:Type} (l:List α):l.isEmpty=(l.length==0):=by cases l <;> rfl
theorem Sx.shape1 {N:Sx.Names} {t:Sx.Ty} : Sx.shape N 1 t.name t.names t.embeds t.parts=(Sx.plain t&&(t.parts.length==0)):=by simp[Sx.shape,Sx.plain,Sx.len0,Bool.and_assoc]
theorem Sx.shape2 {N:Sx.Names} {t:Sx.Ty} : Sx.shape N 2 t.name t.names t.embeds t.parts=(Sx.plain t&&(t.parts.length==0)):=by simp[Sx.shape,Sx.plain,Sx.len0,Bool.and_assoc]
theorem Sx.shape3 {N:Sx.Names} {t:Sx.Ty} : Sx.shape N 3 t.name t.names t.embeds t.parts=(Sx.plain t&&(t.parts.length==0)):=by simp[Sx.shape,Sx.plain,Sx.len0,Bool.and_assoc]
theorem Sx.shape4 {N:Sx.Names} {t:Sx.Ty} : Sx.shape N 4 t.name t.names t.embeds t.parts=(N.great t.name&&((t.names.length==0)&&((t.embeds.length==0)&&(t.parts.length==0)))):=by simp[Sx.shape,Sx.len0,Bool.and_assoc]
theorem Sx.shape5 {N:Sx.Names} {t:Sx.Ty} : Sx.shape N 5 t.name t.names t.embeds t.parts=(Sx.plain t&&(t.parts.length==1)):=by simp[Sx.shape,Sx.plain,Sx.len0,Bool.and_assoc]
theorem Sx.shape7 {N:Sx.Names} {t:Sx.Ty} : Sx.shape N 7 t.name t.names t.embeds t.parts=(Sx.plain t&&decide (1<=t.parts.length)):=by simp[Sx.shape,Sx.plain,Sx.len0,Bool.and_assoc]
theorem Sx.shape6 {N:Sx.Names} {t:Sx.Ty} : Sx.shape N 6 t.name t.names t.embeds t.parts=(t.name.isEmpty&&((t.embeds.length==t.names.length)&&((t.parts.length==t.names.length)&&Sx.apart N t.names))):=by simp[Sx.shape,Bool.and_assoc]
theorem Sx.shape8 {N:Sx.Names} {t:Sx.Ty} : Sx.shape N 8 t.name t.names t.embeds t.parts=((t.parts.all fun p=>p.kind==7)&&(t.name.isEmpty&&((t.embeds.length==0)&&((t.parts.length==t.names.length)&&Sx.apart N t.names)))):=by simp[Sx.shape,Sx.len0,Bool.and_assoc]
def RightOk (d:Nat):Prop:=∀(t:Sx.Ty) (v:Value) (W:World),GS W->NG<=W.heap.size->IsTy W v t->Sx.size t<=1000000->
 Calls Tryz.prog 58 #[v,.int .i64 (d:Nat)] W fun e W'=>e=.returned (.bool (Sx.rightT NM d t))/\Below W.heap.size W W'
theorem zppZ:RightOk 0:=by
 intro t v W hG hN ht H0;obtain⟨An,cn,Ae,ce,Ap,cp,rfl,-,-,-⟩:=ht.agg;go_enter Tryz.func58, Tryz.ntmps58;go_wp2_with fail;go_ret;rw[Sx.right_zero];exact⟨rfl,zeZ (yeZ W _ _)⟩
theorem zpqZ (d:Nat) (hd:d+1<=64) (ih:RightOk d):RightOk (d+1):=by
 intro t v W hG hN ht Jh;obtain⟨An,cn,Ae,ce,Ap,cp,rfl,hnm,hem,hp⟩:=ht.agg;obtain⟨e,he⟩:∃e:Int,((d+1:Nat):Int)=e:=⟨_,rfl⟩;have Ju:(e==0)=false:=by rw[yaZ];omega
 have Jr:1<=e:=by omega
 have U2:e<=64:=by omega
 have Ho:∀(p:Sx.Ty) (u:Value) (X:World),GS X->NG<=X.heap.size->IsTy X u p->Sx.size p<=1000000->
   Calls Tryz.prog 58 #[u,.int .i64 (e-1)] X fun e X'=>e=.returned (.bool (Sx.rightT NM d p))/\Below X.heap.size X X':=by
  intro p u X h1 h2 h3 h4;rw[show e-1=(d:Int)by omega];exact ih p u X h1 h2 h3 h4
 have J8:=Sx.size_parts t;have J0:=Sx.length_size t.parts;have Hq:=zh (Sx.right_eq NM d t);obtain⟨k,hk⟩:=zE (t.parts.length);obtain⟨kd,hkd⟩:=zE (t.kind);have Jz:(k:Int)<=1000000:=by omega
 have Js:(t.names.length:Int)<=1000000:=by omega
 have Jq:(t.embeds.length:Int)<=1000000:=by omega
 have U0:(0:Int)<=(k:Int):=by omega
 have Jw:(0:Int)<=(t.names.length:Int):=by omega
 have Jn:(0:Int)<=(t.embeds.length:Int):=by omega
 rw[he,hk,hkd];rw[hk]at hp;have HK:=zh hk;have H3:=zh hkd;have Hz:=zh Ho;have HG:=zh hG;have Hm:=zh (show Sx.size t<=1000000/\t.name.length+t.names.length<=1000000 by omega);have Je:=zh J8;have HP:=zh hp;have J5:=zh hnm;obtain⟨L,hL⟩:=zE (W.heap.size);have hNL:NG<=L:=by omega
 obtain⟨w2,hw2⟩:=zE (W.alloc (.cells #[.int .i64 kd,.string ⟨t.name.toArray⟩,.slice An t.names.length cn,.slice Ae t.embeds.length ce,.slice Ap k cp] 26));have He:w2.heap[L]? =some (.cells #[.int .i64 kd,.string ⟨t.name.toArray⟩,.slice An t.names.length cn,.slice Ae t.embeds.length ce,.slice Ap k cp] 26 (0,0)):=by rw[<-hw2,<-hL];exact ydZ W _
 have Hp:Below L W w2:=by rw[<-hw2,<-hL];exact zeZ (yeZ W _ none)
 have Ja:=zh He;have Jm:=zh Hp;have HL:=zh hL;obtain⟨x0,x1,x2,x3,x4⟩:=zcZ He;have Jv:=zaZ He;clear ih hG ht hnm hem hp he Ho J8 J0 hk hkd He Hp Jh;go_enter Tryz.func58, Tryz.ntmps58;go_wp2_with fail;clear x0 x1 x2 x3 x4;go_loopg [18] k (fun i v wr=>∃(m:Nat),i=k-m/\v=.int .i64 (m:Int)/\m<=k/\Below L W wr/\wr.heap[L]? =w2.heap[L]? /\(∀p∈t.parts.take m,Sx.rightT NM d p=true))
 case atStart=>exact⟨0,rfl,rfl,yxZ _,Jm.o,rfl,by simp⟩
 case round=>
  obtain⟨m,hi,rfl,hm,hwr,hbr,hall⟩:=hrel;rw[Ja.o]at hbr;obtain⟨x0,x1,x2,x3,x4⟩:=zcZ hbr;have Jg:=zaZ hbr;have hLs:L<=wr.heap.size:=(by have:=hwr.size;have:=HL.o;omega);have HI:=zh hi;have Hx:=zh hwr;have H9:=zh hbr;have Hh:=zh hall;have m0:(0:Int)<=(m:Int):=(by omega);clear hi hwr hbr hall;by_cases hlt:m<k
  ·have Ji:(m:Int)<(k:Int):=(by omega);have Hu:m<t.parts.length:=(by have:=HK.o;omega);obtain⟨g,off,An1,cn1,Ae1,ce1,Aq,cq,rfl,hty,hc5⟩:=HP.o.spot m Hu;rw[HL.o]at hc5;obtain⟨hg,c0,c1,c2,c3,c4⟩:=hc5 wr Hx.o;have Hk:=ykZ Hu;obtain⟨p,Hc⟩:=zE (t.parts[m]'Hu);have H6:p∈t.parts:=(by rw[<-Hc];exact yfZ Hu);rw[Hc]at c0 c1 c2 c3 c4 Hk hty;have Jf:=Sx.parts_mem (l:=[t]) (t:=t) (by simp);have J7:Sx.size p<=1000000:=(by have:=Sx.size_mem H6;have:=Je.o;have:=Hm.o;omega);have Jl:=zh J7;have Hl:=zh H6;have Hy:=zh Hk;have Jd:=zh hty;obtain⟨w4,hw4⟩:=zE (wr.alloc (.cells #[.int .i64 p.kind,.string ⟨p.name.toArray⟩,.slice An1 p.names.length cn1,.slice Ae1 p.embeds.length ce1,.slice Aq p.parts.length cq] 26));have Hb:w4.heap[wr.heap.size]? =some (.cells #[.int .i64 p.kind,.string ⟨p.name.toArray⟩,.slice An1 p.names.length cn1,.slice Ae1 p.embeds.length ce1,.slice Aq p.parts.length cq] 26 (0,0)):=(by rw[<-hw4];exact ydZ wr _);have Hw:Below wr.heap.size wr w4:=(by rw[<-hw4];exact zeZ (yeZ wr _ none));have Jy:=zaZ Hb;obtain⟨y0,y1,y2,y3,y4⟩:=zcZ Hb;have hB4:Below L W w4:=Hx.o.trans (Hw.mono hLs);have J4:=Hz.o p _ w4 (HG.o.below (by rw[HL.o];exact hB4)) (by omega) (Jd.o.below (by rw[HL.o];exact hB4)) Jl.o;have Hv:=zh J4;have J6:=zh hB4;have J3:=zh ((Hw.block L Jg).trans H9.o);have hL4:L<w4.heap.size:=(by omega);clear hty hc5 Hc H6 Hk Jf J7 J4 hB4 Hw Hb
   cases hpr:Sx.rightT NM d p with
   | true=>
    rw[hpr]at Hv;have Jk:=zh hpr;clear hpr;go_wp2_with (go_at_call 58;refine Hv.o.mono ?_;rintro e w5 ⟨rfl,H4⟩);go_roundg (k-(m+1))
    case measure=>have:=HI.o;omega
    case rel=>
     refine⟨m+1,rfl,by simp,hlt,J6.o.trans (H4.mono (by omega)),?_,?_⟩
     ·rw[Ja.o,H4.block L hL4,J3.o]
     ·rw[Hy.o];intro q hq;rcases yfbZ.1 hq with h | h
      ·exact Hh.o q h
      ·rw[yWZ]at h;rw[h];exact Jk.o
   | false=>rw[hpr]at Hv;have HF:=zh (show Sx.rightT NM (d+1) t=false by rw[Hq.o,Sx.rights_not NM d Hl.o hpr];rfl);clear hpr;go_wp2_with (go_at_call 58;refine Hv.o.mono ?_;rintro e w5 ⟨rfl,H4⟩);go_ret;rw[HF.o,HL.o];exact⟨rfl,J6.o.trans (H4.mono (by omega))⟩
  ·have Ji:¬(m:Int)<(k:Int):=(by omega);have H2:=zh (show Sx.rightT NM (d+1) t=Sx.shape NM t.kind t.name t.names t.embeds t.parts by
    rw[Hq.o,Sx.rights_all NM d]
    ·rfl
    ·have h:=Hh.o
     rwa [yjZ (by have:=HK.o;omega)]at h)
   go_wp2_with fail
   go_quiet (fail)
   obtain⟨w3,hw3⟩:=zE (wr.drewN nq);have Hs:Below L W w3:=(by rw[<-hw3];exact Hx.o.trans ⟨rfl,rfl,rfl,ybZ _,fun _ _=>rfl⟩);have H8:w3.heap[L]? =wr.heap[L]? :=(by rw[<-hw3];rfl);rw[H9.o]at H8;rw[hw3];clear x0 x1 x2 x3 x4 H9 hw3;obtain⟨x0,x1,x2,x3,x4⟩:=zcZ H8;have J1:=zaZ H8;have H9:=zh H8;have H0:=zh Hs;clear H8 Hs;go_upto_region 10 with fail
   go_cut [10] (fun v wx=>v=.bool (Sx.plain t)/\wx=w3)
   case first=>
    have Hc:Sx.plain t=(t.name.isEmpty&&((t.names.length==0)&&(t.embeds.length==0))):=(by unfold Sx.plain;cases t.names <;> cases t.embeds <;> rfl);have Ht:=zh Hc;clear Hc
    cases hb1:t.name.isEmpty with
    | false=>
     go_wp2_with fail
     go_meet
     exact⟨by rw[Ht.o,hb1];rfl,rfl⟩
    | true=>
     by_cases Hp:t.names.length=0
     ·have b2:((t.names.length:Int)==0)=true:=(by rw[ytZ];omega);have Hg:=zh (show(t.names.length==0)=true by rw[ytZ];omega);clear Hp;by_cases hb3:t.embeds.length=0
      ·have b3:((t.embeds.length:Int)==0)=true:=(by rw[ytZ];omega);have Hi:=zh (show(t.embeds.length==0)=true by rw[ytZ];omega);clear hb3;go_wp2_with fail
       go_meet
       exact⟨by rw[Ht.o,hb1,Hg.o,Hi.o];rfl,rfl⟩
      ·have b3:((t.embeds.length:Int)==0)=false:=(by rw[yaZ];omega);have Hi:=zh (show(t.embeds.length==0)=false by rw[yaZ];omega);clear hb3;go_wp2_with fail
       go_meet
       exact⟨by rw[Ht.o,hb1,Hg.o,Hi.o];rfl,rfl⟩
     ·have b2:((t.names.length:Int)==0)=false:=(by rw[yaZ];omega);have Hg:=zh (show(t.names.length==0)=false by rw[yaZ];omega);clear Hp;go_wp2_with fail
      go_meet
      exact⟨by rw[Ht.o,hb1,Hg.o];rfl,rfl⟩
   case rest=>
    obtain⟨rfl,hwc⟩:=hcut;subst hwc;have Jp:=H2;by_cases hk1:kd=1
    ·subst hk1;have H1:=HK.o
     cases hpl:Sx.plain t with
     | true=>
      by_cases hc:k=0
      ·have bhc:((k:Int)==0)=true:=(by rw[ytZ];omega);have Hhc:=zh (show(t.parts.length==0)=true by rw[ytZ];omega);clear hc;clear H1;have HS:=zh (show Sx.shape NM 1 t.name t.names t.embeds t.parts=true by rw[Sx.shape1,hpl,Hhc.o];rfl);go_wp2_with fail;go_ret;refine⟨?_,by first | exact H0.o | (rw[HL.o];exact H0.o)⟩;rw[H2.o,H3.o,HS.o];rfl
      ·have bhc:((k:Int)==0)=false:=(by rw[yaZ];omega);have Hhc:=zh (show(t.parts.length==0)=false by rw[yaZ];omega);clear hc;clear H1;have HS:=zh (show Sx.shape NM 1 t.name t.names t.embeds t.parts=false by rw[Sx.shape1,hpl,Hhc.o];rfl);go_wp2_with fail;go_ret;refine⟨?_,by first | exact H0.o | (rw[HL.o];exact H0.o)⟩;rw[H2.o,H3.o,HS.o];rfl
     | false=>clear H1;have HS:=zh (show Sx.shape NM 1 t.name t.names t.embeds t.parts=false by rw[Sx.shape1,hpl];rfl);go_wp2_with fail;go_ret;refine⟨?_,by first | exact H0.o | (rw[HL.o];exact H0.o)⟩;rw[H2.o,H3.o,HS.o];rfl
    by_cases hk2:kd=2
    ·subst hk2;have H1:=HK.o
     cases hpl:Sx.plain t with
     | true=>
      by_cases hc:k=0
      ·have bhc:((k:Int)==0)=true:=(by rw[ytZ];omega);have Hhc:=zh (show(t.parts.length==0)=true by rw[ytZ];omega);clear hc;clear H1;have HS:=zh (show Sx.shape NM 2 t.name t.names t.embeds t.parts=true by rw[Sx.shape2,hpl,Hhc.o];rfl);go_wp2_with fail;go_ret;refine⟨?_,by first | exact H0.o | (rw[HL.o];exact H0.o)⟩;rw[H2.o,H3.o,HS.o];rfl
      ·have bhc:((k:Int)==0)=false:=(by rw[yaZ];omega);have Hhc:=zh (show(t.parts.length==0)=false by rw[yaZ];omega);clear hc;clear H1;have HS:=zh (show Sx.shape NM 2 t.name t.names t.embeds t.parts=false by rw[Sx.shape2,hpl,Hhc.o];rfl);go_wp2_with fail;go_ret;refine⟨?_,by first | exact H0.o | (rw[HL.o];exact H0.o)⟩;rw[H2.o,H3.o,HS.o];rfl
     | false=>clear H1;have HS:=zh (show Sx.shape NM 2 t.name t.names t.embeds t.parts=false by rw[Sx.shape2,hpl];rfl);go_wp2_with fail;go_ret;refine⟨?_,by first | exact H0.o | (rw[HL.o];exact H0.o)⟩;rw[H2.o,H3.o,HS.o];rfl
    by_cases hk3:kd=3
    ·subst hk3;have H1:=HK.o
     cases hpl:Sx.plain t with
     | true=>
      by_cases hc:k=0
      ·have bhc:((k:Int)==0)=true:=(by rw[ytZ];omega);have Hhc:=zh (show(t.parts.length==0)=true by rw[ytZ];omega);clear hc;clear H1;have HS:=zh (show Sx.shape NM 3 t.name t.names t.embeds t.parts=true by rw[Sx.shape3,hpl,Hhc.o];rfl);go_wp2_with fail;go_ret;refine⟨?_,by first | exact H0.o | (rw[HL.o];exact H0.o)⟩;rw[H2.o,H3.o,HS.o];rfl
      ·have bhc:((k:Int)==0)=false:=(by rw[yaZ];omega);have Hhc:=zh (show(t.parts.length==0)=false by rw[yaZ];omega);clear hc;clear H1;have HS:=zh (show Sx.shape NM 3 t.name t.names t.embeds t.parts=false by rw[Sx.shape3,hpl,Hhc.o];rfl);go_wp2_with fail;go_ret;refine⟨?_,by first | exact H0.o | (rw[HL.o];exact H0.o)⟩;rw[H2.o,H3.o,HS.o];rfl
     | false=>clear H1;have HS:=zh (show Sx.shape NM 3 t.name t.names t.embeds t.parts=false by rw[Sx.shape3,hpl];rfl);go_wp2_with fail;go_ret;refine⟨?_,by first | exact H0.o | (rw[HL.o];exact H0.o)⟩;rw[H2.o,H3.o,HS.o];rfl
    by_cases hk5:kd=5
    ·subst hk5;have H1:=HK.o
     cases hpl:Sx.plain t with
     | true=>
      by_cases hc:k=1
      ·have bhc:((k:Int)==1)=true:=(by rw[ytZ];omega);have Hhc:=zh (show(t.parts.length==1)=true by rw[ytZ];omega);clear hc;clear H1;have HS:=zh (show Sx.shape NM 5 t.name t.names t.embeds t.parts=true by rw[Sx.shape5,hpl,Hhc.o];rfl);go_wp2_with fail;go_ret;refine⟨?_,by first | exact H0.o | (rw[HL.o];exact H0.o)⟩;rw[H2.o,H3.o,HS.o];rfl
      ·have bhc:((k:Int)==1)=false:=(by rw[yaZ];omega);have Hhc:=zh (show(t.parts.length==1)=false by rw[yaZ];omega);clear hc;clear H1;have HS:=zh (show Sx.shape NM 5 t.name t.names t.embeds t.parts=false by rw[Sx.shape5,hpl,Hhc.o];rfl);go_wp2_with fail;go_ret;refine⟨?_,by first | exact H0.o | (rw[HL.o];exact H0.o)⟩;rw[H2.o,H3.o,HS.o];rfl
     | false=>clear H1;have HS:=zh (show Sx.shape NM 5 t.name t.names t.embeds t.parts=false by rw[Sx.shape5,hpl];rfl);go_wp2_with fail;go_ret;refine⟨?_,by first | exact H0.o | (rw[HL.o];exact H0.o)⟩;rw[H2.o,H3.o,HS.o];rfl
    by_cases hk7:kd=7
    ·subst hk7;have H1:=HK.o
     cases hpl:Sx.plain t with
     | true=>
      by_cases hc:1<=k
      ·have bhc:decide ((1:Int)<=(k:Int))=true:=(by rw[yCZ];omega);have Hhc:=zh (show decide (1<=t.parts.length)=true by rw[yCZ];omega);clear hc;clear H1;have HS:=zh (show Sx.shape NM 7 t.name t.names t.embeds t.parts=true by rw[Sx.shape7,hpl,Hhc.o];rfl);go_wp2_with fail;go_ret;refine⟨?_,by first | exact H0.o | (rw[HL.o];exact H0.o)⟩;rw[H2.o,H3.o,HS.o];rfl
      ·have bhc:decide ((1:Int)<=(k:Int))=false:=(by rw[yvZ];omega);have Hhc:=zh (show decide (1<=t.parts.length)=false by rw[yvZ];omega);clear hc;clear H1;have HS:=zh (show Sx.shape NM 7 t.name t.names t.embeds t.parts=false by rw[Sx.shape7,hpl,Hhc.o];rfl);go_wp2_with fail;go_ret;refine⟨?_,by first | exact H0.o | (rw[HL.o];exact H0.o)⟩;rw[H2.o,H3.o,HS.o];rfl
     | false=>clear H1;have HS:=zh (show Sx.shape NM 7 t.name t.names t.embeds t.parts=false by rw[Sx.shape7,hpl];rfl);go_wp2_with fail;go_ret;refine⟨?_,by first | exact H0.o | (rw[HL.o];exact H0.o)⟩;rw[H2.o,H3.o,HS.o];rfl
    by_cases hk4:kd=4
    ·subst hk4;have H1:=HK.o;have hWs:=H0.o.size;have Jc:=zspZ t.name wc (HG.o.below (by rw[HL.o];exact H0.o)) (by omega) (by have:=Hm.o;omega);have Hj:=zh Jc;clear Jc
     cases hg:NM.great t.name with
     | true=>
      rw[hg]at Hj;by_cases h1:t.names.length=0
      ·have bh1:((t.names.length:Int)==0)=true:=(by rw[ytZ];omega);have Hh1:=zh (show(t.names.length==0)=true by rw[ytZ];omega);clear h1;by_cases h2:t.embeds.length=0
       ·have bh2:((t.embeds.length:Int)==0)=true:=(by rw[ytZ];omega);have Hh2:=zh (show(t.embeds.length==0)=true by rw[ytZ];omega);clear h2;by_cases h3:k=0
        ·have bh3:((k:Int)==0)=true:=(by rw[ytZ];omega);have Hh3:=zh (show(t.parts.length==0)=true by rw[ytZ];omega);clear h3;clear H1;have HS:=zh (show Sx.shape NM 4 t.name t.names t.embeds t.parts=true by rw[Sx.shape4,hg,Hh1.o,Hh2.o,Hh3.o];rfl);go_wp2_with (go_at_call 107;refine Hj.o.mono ?_;rintro e w5 ⟨rfl,H4⟩);go_ret;refine⟨?_,by first | exact H0.o.trans (H4.mono (by omega)) | (rw[HL.o];exact H0.o.trans (H4.mono (by omega)))⟩;rw[H2.o,H3.o,HS.o];rfl
        ·have bh3:((k:Int)==0)=false:=(by rw[yaZ];omega);have Hh3:=zh (show(t.parts.length==0)=false by rw[yaZ];omega);clear h3;clear H1;have HS:=zh (show Sx.shape NM 4 t.name t.names t.embeds t.parts=false by rw[Sx.shape4,hg,Hh1.o,Hh2.o,Hh3.o];rfl);go_wp2_with (go_at_call 107;refine Hj.o.mono ?_;rintro e w5 ⟨rfl,H4⟩);go_ret;refine⟨?_,by first | exact H0.o.trans (H4.mono (by omega)) | (rw[HL.o];exact H0.o.trans (H4.mono (by omega)))⟩;rw[H2.o,H3.o,HS.o];rfl
       ·have bh2:((t.embeds.length:Int)==0)=false:=(by rw[yaZ];omega);have Hh2:=zh (show(t.embeds.length==0)=false by rw[yaZ];omega);clear h2;clear H1;have HS:=zh (show Sx.shape NM 4 t.name t.names t.embeds t.parts=false by rw[Sx.shape4,hg,Hh1.o,Hh2.o];rfl);go_wp2_with (go_at_call 107;refine Hj.o.mono ?_;rintro e w5 ⟨rfl,H4⟩);go_ret;refine⟨?_,by first | exact H0.o.trans (H4.mono (by omega)) | (rw[HL.o];exact H0.o.trans (H4.mono (by omega)))⟩;rw[H2.o,H3.o,HS.o];rfl
      ·have bh1:((t.names.length:Int)==0)=false:=(by rw[yaZ];omega);have Hh1:=zh (show(t.names.length==0)=false by rw[yaZ];omega);clear h1;clear H1;have HS:=zh (show Sx.shape NM 4 t.name t.names t.embeds t.parts=false by rw[Sx.shape4,hg,Hh1.o];rfl);go_wp2_with (go_at_call 107;refine Hj.o.mono ?_;rintro e w5 ⟨rfl,H4⟩);go_ret;refine⟨?_,by first | exact H0.o.trans (H4.mono (by omega)) | (rw[HL.o];exact H0.o.trans (H4.mono (by omega)))⟩;rw[H2.o,H3.o,HS.o];rfl
     | false=>rw[hg]at Hj;clear H1;have HS:=zh (show Sx.shape NM 4 t.name t.names t.embeds t.parts=false by rw[Sx.shape4,hg];rfl);go_wp2_with (go_at_call 107;refine Hj.o.mono ?_;rintro e w5 ⟨rfl,H4⟩);go_ret;refine⟨?_,by first | exact H0.o.trans (H4.mono (by omega)) | (rw[HL.o];exact H0.o.trans (H4.mono (by omega)))⟩;rw[H2.o,H3.o,HS.o];rfl
    by_cases hk6:kd=6
    ·subst hk6;have H1:=HK.o;have hWs:=H0.o.size;have Hn:=zgdZ t.names (.slice An t.names.length cn) wc (HG.o.below (by rw[HL.o];exact H0.o)) (by omega) (J5.o.below (by rw[HL.o];exact H0.o)) (by have:=Hm.o;omega) (fun s hs=>by have:=Sx.name_len hs;have:=Hm.o.1;omega);have Hd:=zh Hn;clear Hn
     cases hn:t.name.isEmpty with
     | true=>
      by_cases h1:t.embeds.length=t.names.length
      ·have bh1:((t.embeds.length:Int)==(t.names.length:Int))=true:=(by rw[ytZ];omega);have Hh1:=zh (show(t.embeds.length==t.names.length)=true by rw[ytZ];omega);clear h1;by_cases h2:k=t.names.length
       ·have bh2:((k:Int)==(t.names.length:Int))=true:=(by rw[ytZ];omega);have Hh2:=zh (show(t.parts.length==t.names.length)=true by rw[ytZ];omega);clear h2
        cases hu:Sx.apart NM t.names with
        | true=>rw[hu]at Hd;clear H1;have HS:=zh (show Sx.shape NM 6 t.name t.names t.embeds t.parts=true by rw[Sx.shape6,hn,Hh1.o,Hh2.o,hu];rfl);go_wp2_with (go_at_call 108;refine Hd.o.mono ?_;rintro e w5 ⟨rfl,H4⟩);go_ret;refine⟨?_,by first | exact H0.o.trans (H4.mono (by omega)) | (rw[HL.o];exact H0.o.trans (H4.mono (by omega)))⟩;rw[H2.o,H3.o,HS.o];rfl
        | false=>rw[hu]at Hd;clear H1;have HS:=zh (show Sx.shape NM 6 t.name t.names t.embeds t.parts=false by rw[Sx.shape6,hn,Hh1.o,Hh2.o,hu];rfl);go_wp2_with (go_at_call 108;refine Hd.o.mono ?_;rintro e w5 ⟨rfl,H4⟩);go_ret;refine⟨?_,by first | exact H0.o.trans (H4.mono (by omega)) | (rw[HL.o];exact H0.o.trans (H4.mono (by omega)))⟩;rw[H2.o,H3.o,HS.o];rfl
       ·have bh2:((k:Int)==(t.names.length:Int))=false:=(by rw[yaZ];omega);have Hh2:=zh (show(t.parts.length==t.names.length)=false by rw[yaZ];omega);clear h2;clear H1;have HS:=zh (show Sx.shape NM 6 t.name t.names t.embeds t.parts=false by rw[Sx.shape6,hn,Hh1.o,Hh2.o];rfl);go_wp2_with fail;go_ret;refine⟨?_,by first | exact H0.o | (rw[HL.o];exact H0.o)⟩;rw[H2.o,H3.o,HS.o];rfl
      ·have bh1:((t.embeds.length:Int)==(t.names.length:Int))=false:=(by rw[yaZ];omega);have Hh1:=zh (show(t.embeds.length==t.names.length)=false by rw[yaZ];omega);clear h1;clear H1;have HS:=zh (show Sx.shape NM 6 t.name t.names t.embeds t.parts=false by rw[Sx.shape6,hn,Hh1.o];rfl);go_wp2_with fail;go_ret;refine⟨?_,by first | exact H0.o | (rw[HL.o];exact H0.o)⟩;rw[H2.o,H3.o,HS.o];rfl
     | false=>clear H1;have HS:=zh (show Sx.shape NM 6 t.name t.names t.embeds t.parts=false by rw[Sx.shape6,hn];rfl);go_wp2_with fail;go_ret;refine⟨?_,by first | exact H0.o | (rw[HL.o];exact H0.o)⟩;rw[H2.o,H3.o,HS.o];rfl
    by_cases hk8:kd=8
    ·subst hk8;go_wp2_with fail;go_loopg [115] k (fun i v wq=>∃(m:Nat),i=k-m/\v=.int .i64 (m:Int)/\m<=k/\Below wc.heap.size wc wq/\(∀p∈t.parts.take m,p.kind=7))
     case atStart=>exact⟨0,rfl,rfl,yxZ _,yqZ _ _,by simp⟩
     case round=>
      obtain⟨m2,hi2,rfl,hm2,hbq,hr2⟩:=hrel;have Jj:=zh hi2;have Jo:=zh hbq;have J9:=zh hr2;have m20:(0:Int)<=(m2:Int):=(by omega);have hWs:=H0.o.size;have U1:=hbq.size;have H5:=zh (show Below L W wr from H0.o.trans (hbq.mono (by omega)));have Hr:=zh ((hbq.block L J1).trans H9.o);clear x0 x1 x2 x3 x4 hi2 hbq hr2;obtain⟨x0,x1,x2,x3,x4⟩:=zcZ Hr.o;have Jx:=zaZ Hr.o;by_cases hlt2:m2<k
      ·have J2:(m2:Int)<(k:Int):=(by omega);have Hf:m2<t.parts.length:=(by have:=HK.o;omega);obtain⟨g,off,An1,cn1,Ae1,ce1,Aq,cq,rfl,hty,hc5⟩:=HP.o.spot m2 Hf;rw[HL.o]at hc5;obtain⟨hg,c0,c1,c2,c3,c4⟩:=hc5 wr H5.o;have Hk:=ykZ Hf;obtain⟨p,Hc⟩:=zE (t.parts[m2]'Hf);have H6:p∈t.parts:=(by rw[<-Hc];exact yfZ Hf);rw[Hc]at c0 c1 c2 c3 c4 Hk;obtain⟨kp,hkp⟩:=zE (p.kind);rw[hkp]at c0;have Hl:=zh H6;have Hy:=zh Hk;have Jb:=zh hkp;clear hty hc5 Hc H6 Hk hkp;by_cases h7:kp=7
       ·have b7:(kp != 7)=false:=(by simp[h7]);have H7:=zh h7;clear h7;go_wp2_with fail;go_roundg (k-(m2+1))
        case measure=>have:=Jj.o;omega
        case rel=>
         refine⟨m2+1,rfl,by simp,hlt2,Jo.o.trans (zeZ (yeZ wr _ none) |>.mono (by omega)),?_⟩;rw[Hy.o];intro q hq;rcases yfbZ.1 hq with h | h
         ·exact J9.o q h
         ·rw[yWZ]at h;rw[h,Jb.o,H7.o]
       ·have b7:(kp != 7)=true:=(by simp[h7]);have HS:=zh (show Sx.shape NM 8 t.name t.names t.embeds t.parts=false by
         rw[Sx.shape8];have:(t.parts.all fun p=>p.kind==7)=false:=(by rw[List.all_eq_false];exact⟨p,Hl.o,by simp[Jb.o,h7]⟩);rw[this];rfl)
        clear h7;go_wp2_with fail;go_ret;refine⟨?_,by first | exact H5.o.trans (zeZ (yeZ wr _ none) |>.mono (by omega)) | (rw[HL.o];exact H5.o.trans (zeZ (yeZ wr _ none) |>.mono (by omega)))⟩;rw[H2.o,H3.o,HS.o];rfl
      ·have J2:¬(m2:Int)<(k:Int):=(by omega);have Ha:=zh (show(t.parts.all fun p=>p.kind==7)=true by
        rw[yZZ];intro p hp;have:=J9.o p (by rw[yjZ (by have:=HK.o;omega)];exact hp);simp[this])
       have H1:=HK.o;have Hn:=zgdZ t.names (.slice An t.names.length cn) wr (HG.o.below (by rw[HL.o];exact H5.o)) (by omega) (J5.o.below (by rw[HL.o];exact H5.o)) (by have:=Hm.o;omega) (fun s hs=>by have:=Sx.name_len hs;have:=Hm.o.1;omega);have Hd:=zh Hn;clear Hn
       cases hn:t.name.isEmpty with
       | true=>
        by_cases h1:t.embeds.length=0
        ·have bh1:((t.embeds.length:Int)==0)=true:=(by rw[ytZ];omega);have Hh1:=zh (show(t.embeds.length==0)=true by rw[ytZ];omega);clear h1;by_cases h2:k=t.names.length
         ·have bh2:((k:Int)==(t.names.length:Int))=true:=(by rw[ytZ];omega);have Hh2:=zh (show(t.parts.length==t.names.length)=true by rw[ytZ];omega);clear h2
          cases hu:Sx.apart NM t.names with
          | true=>rw[hu]at Hd;clear H1;have HS:=zh (show Sx.shape NM 8 t.name t.names t.embeds t.parts=true by rw[Sx.shape8,Ha.o,hn,Hh1.o,Hh2.o,hu];rfl);go_wp2_with (go_at_call 108;refine Hd.o.mono ?_;rintro e w5 ⟨rfl,H4⟩);go_ret;refine⟨?_,by first | exact H5.o.trans (H4.mono (by omega)) | (rw[HL.o];exact H5.o.trans (H4.mono (by omega)))⟩;rw[H2.o,H3.o,HS.o];rfl
          | false=>rw[hu]at Hd;clear H1;have HS:=zh (show Sx.shape NM 8 t.name t.names t.embeds t.parts=false by rw[Sx.shape8,Ha.o,hn,Hh1.o,Hh2.o,hu];rfl);go_wp2_with (go_at_call 108;refine Hd.o.mono ?_;rintro e w5 ⟨rfl,H4⟩);go_ret;refine⟨?_,by first | exact H5.o.trans (H4.mono (by omega)) | (rw[HL.o];exact H5.o.trans (H4.mono (by omega)))⟩;rw[H2.o,H3.o,HS.o];rfl
         ·have bh2:((k:Int)==(t.names.length:Int))=false:=(by rw[yaZ];omega);have Hh2:=zh (show(t.parts.length==t.names.length)=false by rw[yaZ];omega);clear h2;clear H1;have HS:=zh (show Sx.shape NM 8 t.name t.names t.embeds t.parts=false by rw[Sx.shape8,Ha.o,hn,Hh1.o,Hh2.o];rfl);go_wp2_with fail;go_ret;refine⟨?_,by first | exact H5.o | (rw[HL.o];exact H5.o)⟩;rw[H2.o,H3.o,HS.o];rfl
        ·have bh1:((t.embeds.length:Int)==0)=false:=(by rw[yaZ];omega);have Hh1:=zh (show(t.embeds.length==0)=false by rw[yaZ];omega);clear h1;clear H1;have HS:=zh (show Sx.shape NM 8 t.name t.names t.embeds t.parts=false by rw[Sx.shape8,Ha.o,hn,Hh1.o];rfl);go_wp2_with fail;go_ret;refine⟨?_,by first | exact H5.o | (rw[HL.o];exact H5.o)⟩;rw[H2.o,H3.o,HS.o];rfl
       | false=>clear H1;have HS:=zh (show Sx.shape NM 8 t.name t.names t.embeds t.parts=false by rw[Sx.shape8,Ha.o,hn];rfl);go_wp2_with fail;go_ret;refine⟨?_,by first | exact H5.o | (rw[HL.o];exact H5.o)⟩;rw[H2.o,H3.o,HS.o];rfl
    have e1:(kd==1)=false:=(by simp[hk1]);have e2:(kd==2)=false:=(by simp[hk2]);have e3:(kd==3)=false:=(by simp[hk3]);have e4:(kd==4)=false:=(by simp[hk4]);have e5:(kd==5)=false:=(by simp[hk5]);have e6:(kd==6)=false:=(by simp[hk6]);have e7:(kd==7)=false:=(by simp[hk7]);have e8:(kd==8)=false:=(by simp[hk8]);have HS:=zh (show Sx.shape NM kd t.name t.names t.embeds t.parts=false by unfold Sx.shape;rw[if_neg (by omega),if_neg hk4,if_neg hk5,if_neg hk7,if_neg hk6,if_neg hk8]);clear hk1 hk2 hk3 hk4 hk5 hk6 hk7 hk8;go_wp2_with fail;go_ret;refine⟨?_,by first | exact H0.o | (rw[HL.o];exact H0.o)⟩;rw[H2.o,H3.o,HS.o];rfl
theorem zfbZ:∀d:Nat,d<=64->RightOk d
 | 0,_=>zppZ
 | d+1,h=>zpqZ d h (zfbZ d (by omega))
theorem zvgZ:isTok 1 []=false:=by kernel_rfl
theorem zvhZ:isTok 2 []=false:=by kernel_rfl
theorem NM.ok:Sx.NamesOk NM:=⟨fun s h e=>by subst e;exact absurd (zvgZ.symm.trans h) (by simp),fun s h e=>by subst e;exact absurd (zvhZ.symm.trans h) (by simp)⟩
def Sx.said (right:Bool) (l:List Lx.Bytes):Lx.Bytes×Nat:=if right then Sx.told true (Sx.puts ⟨[],0⟩ l)else([],1)
theorem Wrote.fresh {W0 w:World} {b:Nat} (hB:W0.heap.size<=b) (hb:w.heap[b]? =some (.cells #[.pointer none,.slice none 0 0,.int .i64 0] 104 (0,0))) (h:Below W0.heap.size W0 w):Wrote W0 b 0 [] w:=
 ⟨⟨hB,none,.slice none 0 0,hb,.inl rfl,yOZ _ _ _ _,fun _=>rfl⟩,h,by simp,ybZ _⟩
theorem zdtZ {W0 w:World} {b c:Nat} {l:List Lx.Bytes} (h:Wrote W0 b c l w) (hc:c<=1000000000) (r:Bool) (hr:r=false->l=[]) :
  Calls Tryz.prog 60 #[.pointer (some ⟨b,0,none⟩),.bool r] w fun e w'=>
   e=.returned (.tuple #[.string ⟨(Sx.said r l).1.toArray⟩,.int .i64 ((Sx.said r l).2:Nat)])/\Below W0.heap.size W0 w':=by
 have H0:=h.cnt;refine(zuxZ W0.heap.size b (Sx.puts ⟨[],0⟩ l) r w h.wri (Sx.puts_len l _ (by simp) h.good) (by rw[Sx.puts_n];simp;omega)).mono ?_;rintro e w' ⟨he,hb⟩;refine⟨?_,h.below.trans hb⟩;rw[he]
 cases r with
 | true=>rfl
 | false=>rfl
theorem zgwZ (t:Sx.Ty) (v:Value) (W:World) (hG:GS W) (hN:NG<=W.heap.size) (ht:IsTy W v t) (hsz:Sx.size t<=1000000) :
  Calls Tryz.prog 14 #[v] W fun e W'=>e=.returned (.tuple #[.string ⟨(Sx.said (Sx.rightT NM 64 t) (Sx.typ t)).1.toArray⟩,.int .i64 ((Sx.said (Sx.rightT NM 64 t) (Sx.typ t)).2:Nat)])/\Below W.heap.size W W':=by
 have Hf:∀X,Below W.heap.size W X->Calls Tryz.prog 58 #[v,.int .i64 64] X fun e W'=>e=.returned (.bool (Sx.rightT NM 64 t))/\Below X.heap.size X W':=fun X hb=>zfbZ 64 (by omega) t v X (hG.below hb) (ymZ hN hb.size) (ht.below hb) hsz;have H4:=fun b w (hr:Sx.rightT NM 64 t=true) (h:Wrote W b 0 [] w)=>(zeeZ NM NM.ok W b _ t (ybZ _)).1 64 v 0 [] w hr ht h (by omega);obtain⟨An,cn,Ae,ce,Ap,cp,rfl,hnm,hem,hp⟩:=ht.agg;obtain⟨L,hL⟩:=zE (W.heap.size);obtain⟨w2,hw2⟩:=zE (W.alloc (.cells #[.int .i64 t.kind,.string ⟨t.name.toArray⟩,.slice An t.names.length cn,.slice Ae t.embeds.length ce,.slice Ap t.parts.length cp] 26));have H5:w2.heap[L]? =some (.cells #[.int .i64 t.kind,.string ⟨t.name.toArray⟩,.slice An t.names.length cn,.slice Ae t.embeds.length ce,.slice Ap t.parts.length cp] 26 (0,0)):=by rw[<-hw2,<-hL];exact ydZ W _
 have H9:Below W.heap.size W w2:=by rw[<-hw2];exact zeZ (yeZ W _ none)
 obtain⟨K,hK⟩:=zE (w2.heap.size);have hLK:L<=K/\L<K:=by rw[<-hK,<-hw2,<-hL];simp
 obtain⟨w3,hw3⟩:=zE (w2.alloc (.cells #[.pointer none,.slice none 0 0,.int .i64 0] 104));have H0:w3.heap[K]? =some (.cells #[.pointer none,.slice none 0 0,.int .i64 0] 104 (0,0)):=by rw[<-hw3,<-hK];exact ydZ w2 _
 have Ha:Below w2.heap.size w2 w3:=by rw[<-hw3];exact zeZ (yeZ w2 _ none)
 have H7:Below W.heap.size W w3:=H9.trans (Ha.mono H9.size);have H1:=(Ha.block L (by omega)).trans H5;have Hc:K<w3.heap.size:=zaZ H0;obtain⟨x0,x1,x2,x3,x4⟩:=zcZ H1;have Hh:=zaZ H1;have He:=zh (show ∀w4,Below w3.heap.size w3 w4->Wrote W K 0 [] w4/\K<w4.heap.size/\w4.heap[L]? =w3.heap[L]? from fun w4 H2=>
  ⟨Wrote.fresh (by omega) ((H2.block K Hc).trans H0) (H7.trans (H2.mono H7.size)),yJZ Hc H2.size,H2.block L Hh⟩)
 have H8:=zh (Hf w3 H7);have Hb:=zh H4;have H6:=zh H1;have Hi:=zh hsz;clear hLK Hf H4 ht hnm hem hp H5 H9 Ha H7 H1 H0 hG hsz
 cases hr:Sx.rightT NM 64 t with
 | false=>
  rw[hr]at H8;have HR:=zh hr;clear hr;go_enter Tryz.func14, Tryz.ntmps14;go_wp2_with (first
   | (go_at_call 58;refine H8.o.mono ?_;rintro e w4 ⟨rfl,H2⟩;obtain⟨hW,hl4,-⟩:=He.o w4 H2;have hW4:=zh hW;clear H2 hW)
   | (go_at_call 60;refine(zdtZ hW4.o (by omega) false (fun _=>rfl)).mono ?_;rintro e w5 ⟨rfl,Hj⟩))
  refine ylZ (yDZ rfl _ _ _) rfl ?_;exact⟨rfl,Hj⟩
 | true=>
  rw[hr]at H8;have HR:=zh hr;clear hr;go_enter Tryz.func14, Tryz.ntmps14;go_wp2_with (first
   | (go_at_call 58;refine H8.o.mono ?_;rintro e w4 ⟨rfl,H2⟩;obtain⟨hW,hl4,hbl4⟩:=He.o w4 H2;have hW4:=zh hW;have H3:=hbl4.trans H6.o;clear H2 hW hbl4 x0 x1 x2 x3 x4;obtain⟨x0,x1,x2,x3,x4⟩:=zcZ H3;clear H3)
   | (go_at_call 59;refine(Hb.o (K) w4 HR.o hW4.o).mono ?_;rintro e w5 ⟨rfl,h5,-⟩;have Hl:=h5.lt;have hW5:=zh h5;clear h5)
   | (go_at_call 60;refine(zdtZ hW5.o (by have:=Hi.o;omega) true (fun h=>by cases h)).mono ?_;rintro e w6 ⟨rfl,Hg⟩))
  refine ylZ (yDZ rfl _ _ _) rfl ?_;exact⟨rfl,Hg⟩
structure Live (W0:World) (b:Nat) (l:List Lx.Bytes) (w0 w:World) (L:Nat) (cs:Array Value) (t:TypeId) (L2:Nat) (cs2:Array Value) (t2:TypeId):Prop where
 wr:Wrote W0 b l.length l w
 kp:KeepW w0 w
 b1:w.heap[L]? =some (.cells cs t (0,0))
 b2:w.heap[L2]? =some (.cells cs2 t2 (0,0))
def Other (t:TypeId):Prop:=t≠ 5 /\t≠ 104
theorem Wrote.tight {W0 w:World} {b c:Nat} {l:List Lx.Bytes} (h:Wrote W0 b c l w):Wrote W0 b l.length l w:=⟨h.wri,h.below,h.good,ybZ _⟩
theorem Live.go {W0 w0 w w':World} {b L L2 c:Nat} {l m:List Lx.Bytes} {cs cs2:Array Value} {t t2:TypeId} (h:Live W0 b l w0 w L cs t L2 cs2 t2) (ht:Other t) (ht2:Other t2) (hW:Wrote W0 b c m w') (hk:KeepW w w'):Live W0 b m w0 w' L cs t L2 cs2 t2:=
 ⟨hW.tight,h.kp.trans hk,hk _ _ _ _ h.b1 ht.1 ht.2,hk _ _ _ _ h.b2 ht2.1 ht2.2⟩
theorem Live.drew {W0 w0 w:World} {b L L2:Nat} {l:List Lx.Bytes} {cs cs2:Array Value} {t t2:TypeId} (h:Live W0 b l w0 w L cs t L2 cs2 t2):Live W0 b l w0 w.drew L cs t L2 cs2 t2:=
 ⟨h.wr.drew,h.kp.trans (KeepW.drew w),h.b1,h.b2⟩
theorem Live.grow {W0 w0 w w':World} {b L L2:Nat} {l:List Lx.Bytes} {cs cs2:Array Value} {t t2:TypeId} (h:Live W0 b l w0 w L cs t L2 cs2 t2) (hg:w.grownBy w' none):Live W0 b l w0 w' L cs t L2 cs2 t2:=
 ⟨h.wr.grown hg,h.kp.trans (KeepW.grown hg (fun j e=>nomatch e)),(hg.block _ (zaZ h.b1) (fun e=>nomatch e)).trans h.b1,(hg.block _ (zaZ h.b2) (fun e=>nomatch e)).trans h.b2⟩
theorem Live.box {W0 w0 w:World} {b L L2:Nat} {l:List Lx.Bytes} {cs cs2:Array Value} {t t2:TypeId} (h:Live W0 b l w0 w L cs t L2 cs2 t2) (cs3:Array Value) (t3:TypeId) {w':World} (e:w.alloc (.cells cs3 t3)=w'):Live W0 b l w0 w' L cs t w.heap.size cs3 t3:=by
 subst e;have hg:=yeZ w (.cells cs3 t3) none;exact⟨h.wr.grown hg,h.kp.trans (KeepW.alloc w _),(hg.block _ (zaZ h.b1) (fun e=>nomatch e)).trans h.b1,ydZ w _⟩
theorem Live.first {W0 w0:World} {b:Nat} {l:List Lx.Bytes} (h:Wrote W0 b l.length l w0) (cs:Array Value) (t:TypeId) {w':World} (e:w0.alloc (.cells cs t)=w'):Live W0 b l w0 w' w0.heap.size cs t w0.heap.size cs t:=by
 subst e;have hg:=yeZ w0 (.cells cs t) none;exact⟨h.grown hg,KeepW.alloc w0 _,ydZ w0 _,ydZ w0 _⟩
theorem Live.lt {W0 w0 w:World} {b L L2:Nat} {l:List Lx.Bytes} {cs cs2:Array Value} {t t2:TypeId} (h:Live W0 b l w0 w L cs t L2 cs2 t2):L<w.heap.size/\L2<w.heap.size/\b<w.heap.size:=⟨zaZ h.b1,zaZ h.b2,h.wr.lt⟩
theorem Live.lput1 {W0 w0 w:World} {b L L2:Nat} {l:List Lx.Bytes} {cs cs2:Array Value} {t t2:TypeId} (h:Live W0 b l w0 w L cs t L2 cs2 t2) (s:Lx.Bytes) (hs:s≠[]/\s.length<=1000000000) (hn:l.length+1<=1000000000) :
  Calls Tryz.prog 100 #[.pointer (some ⟨b,0,none⟩),.slice (some ⟨w.heap.size,0,none⟩) 1 1] (w.alloc (.cells #[.string ⟨s.toArray⟩] 9)) fun e w'=>
   e=.returned (.tuple #[])/\Wrote W0 b (l.length+1) (l++[s]) w'/\KeepW w w':=put1 h.wr hs hn
theorem Live.lput2 {W0 w0 w:World} {b L L2:Nat} {l:List Lx.Bytes} {cs cs2:Array Value} {t t2:TypeId} (h:Live W0 b l w0 w L cs t L2 cs2 t2) (s u:Lx.Bytes) (hs:s≠[]/\s.length<=1000000000) (hu:u≠[]/\u.length<=1000000000) (hn:l.length+2<=1000000000) :
  Calls Tryz.prog 100 #[.pointer (some ⟨b,0,none⟩),.slice (some ⟨w.heap.size,0,none⟩) 2 2] (w.alloc (.cells #[.string ⟨s.toArray⟩,.string ⟨u.toArray⟩] 9)) fun e w'=>
   e=.returned (.tuple #[])/\Wrote W0 b (l.length+2) (l++[s,u]) w'/\KeepW w w':=put2 h.wr hs hu hn
theorem oEx:Other 39 :=⟨by decide,by decide⟩
theorem zbZ {w:World} {g t:Nat} {a b c d e f k:Value} (h:w.heap[g]? =some (.cells #[a,b,c,d,e,f,k] t (0,0))) :
  w.cell? ⟨g,0,none⟩=some a/\w.cell? ⟨g,1,none⟩=some b/\w.cell? ⟨g,2,none⟩=some c/\w.cell? ⟨g,3,none⟩=some d/\w.cell? ⟨g,4,none⟩=some e/\w.cell? ⟨g,5,none⟩=some f/\w.cell? ⟨g,6,none⟩=some k:=
 ⟨zdZ h 0,zdZ h 1,zdZ h 2,zdZ h 3,zdZ h 4,zdZ h 5,zdZ h 6⟩
/-! ### plain -/
theorem Live.c7 {W0 w0 w:World} {bb L L2:Nat} {l:List Lx.Bytes} {cs2:Array Value} {t t2:TypeId} {a b c d e f k:Value} (h:Live W0 bb l w0 w L #[a,b,c,d,e,f,k] t L2 cs2 t2) :
  w.cell? ⟨L,0,none⟩=some a/\w.cell? ⟨L,1,none⟩=some b/\w.cell? ⟨L,2,none⟩=some c/\w.cell? ⟨L,3,none⟩=some d/\w.cell? ⟨L,4,none⟩=some e/\w.cell? ⟨L,5,none⟩=some f/\w.cell? ⟨L,6,none⟩=some k/\L<w.heap.size/\L2<w.heap.size/\bb<w.heap.size:=by
 obtain⟨x0,x1,x2,x3,x4,x5,x6⟩:=zbZ h.b1;exact⟨x0,x1,x2,x3,x4,x5,x6,h.lt⟩
mutual
def Sx.sizeX:Sx.Ex->Nat
 | .mk _ _ _ s t ns ps=>1+s.length+ns.length+(ns.map List.length).sum+Sx.sizeL t+Sx.sizeXs ps
def Sx.sizeXs:List Sx.Ex->Nat
 | []=>0
 | x::l=>Sx.sizeX x+Sx.sizeXs l
end
theorem Sx.sizeX_parts (x:Sx.Ex):Sx.sizeX x=1+x.s.length+x.names.length+(x.names.map List.length).sum+Sx.sizeL x.t+Sx.sizeXs x.parts:=by cases x;rw[Sx.sizeX];rfl
theorem Sx.sizeX_pos (x:Sx.Ex):1<=Sx.sizeX x:=by rw[Sx.sizeX_parts];omega
theorem Sx.sizeX_mem:∀ {l:List Sx.Ex} {x:Sx.Ex},x∈l->Sx.sizeX x<=Sx.sizeXs l
 | u::l,t,h=>by
  rw[Sx.sizeXs];rcases yTZ.1 h with rfl | h
  ·omega
  ·have:=Sx.sizeX_mem h;omega
theorem Sx.length_sizeXs:∀(l:List Sx.Ex),l.length<=Sx.sizeXs l
 | []=>by simp[Sx.sizeXs]
 | t::l=>by rw[Sx.sizeXs,yhZ];have:=Sx.length_sizeXs l;have:=Sx.sizeX_pos t;omega
def Sx.okX (x:Sx.Ex):Prop:=∃d,Sx.rightX NM d x=true
theorem Sx.rightXs_mem {N:Sx.Names} : ∀ {l:List Sx.Ex} {d0 d:Nat},Sx.rightXs N d0 d l=true->∀p∈l,Sx.rightX N d0 p=true\/Sx.rightX N d p=true
 | x::l,d0,d,h,p,hp=>by
  rw[Sx.rightXs,ygZ]at h;rcases yTZ.1 hp with rfl | hp
  ·exact .inl h.1
  ·rcases Sx.rightXs_mem h.2 p hp with h | h
   ·exact .inr h
   ·exact .inr h
theorem Sx.okX.shape {x:Sx.Ex} (h:Sx.okX x):Sx.shapeX NM x.kind x.n x.s x.t x.names x.parts.length=true/\∀p∈x.parts,Sx.okX p:=by
 obtain⟨d,h⟩:=h
 cases x with
 | mk pos k n s t ns ps=>
  cases d with
  | zero=>simp[Sx.rightX]at h
  | succ d=>
   rw[Sx.rightX,ygZ]at h;refine⟨h.1,fun p hp=>?_⟩;rcases Sx.rightXs_mem h.2 p hp with h | h
   ·exact⟨_,h⟩
   ·exact⟨_,h⟩
def SY:Sx.Says:=⟨fun n=>Lib.decDigits n.toNat,Lx.quote⟩
theorem Sx.expr_eq (x:Sx.Ex):Sx.expr SY x=
  (if x.kind=1 then [SY.digits x.n]
  else if x.kind=2 then [SY.quote x.s]
  else if x.kind=3 then [if x.n=1 then [116,114,117,101]else [102,97,108,115,101]]
  else if x.kind=4 then [x.s]
  else if x.kind=5 then [[115,101,108,102]]
  else if x.kind=6 then [110,105,108]::Sx.typL x.t
  else if x.kind=7\/x.kind=8 then(if x.kind=8 then [[110,101,119]]else [])++[x.s,[123]]++Sx.record SY 0 x.names x.parts++[[125]]
  else if x.kind=9 then Sx.first SY 7 x.parts++[[46],x.s]
  else if x.kind=10 then Sx.first SY 7 x.parts++[[46],x.s]++Sx.args SY x.parts
  else if x.kind=11 then Sx.applied SY x.parts++Sx.args SY x.parts
  else if x.kind=12 then Sx.first SY 7 x.parts++[[116,111]]++Sx.typL x.t
  else if x.kind=13\/x.kind=14 then(if x.kind=13 then [45]else [110,111,116])::Sx.first SY 6 x.parts
  else Sx.first SY (if Sx.level x.kind=3 then 4 else Sx.level x.kind) x.parts++[Sx.sign x.kind]++Sx.second SY (Sx.level x.kind+1) x.parts):=by
 cases x;rw[Sx.expr];rfl
def Sx.within (x:Sx.Ex):List Lx.Bytes:=[[40]]++Sx.expr SY x++[[41]]
def Sx.part (lv:Nat) (x:Sx.Ex):List Lx.Bytes:=if Sx.level x.kind<lv then Sx.within x else Sx.expr SY x
theorem Sx.first_head:∀ {l:List Sx.Ex} (lv:Nat) (h:0<l.length),Sx.first SY lv l=Sx.part lv (l[0]'h)
 | x::l,lv,h=>by rw[Sx.first];rfl
theorem Sx.second_head:∀ {l:List Sx.Ex} (lv:Nat) (h:1<l.length),Sx.second SY lv l=Sx.part lv (l[1]'h)
 | x::y::l,lv,h=>by rw[Sx.second];exact Sx.first_head lv (by simp)
theorem Sx.applied_head:∀ {l:List Sx.Ex} (h:0<l.length),Sx.applied SY l=if(l[0]'h).kind=9 then Sx.within (l[0]'h)else Sx.part 7 (l[0]'h)
 | x::l,h=>by
  rw[Sx.applied];simp only[List.getElem_cons_zero];unfold Sx.part;by_cases h9:x.kind=9
  ·simp[h9,Sx.within]
  ·simp[h9,Sx.within]
def Sx.listed (l:List Sx.Ex):List Lx.Bytes:=[[40]]++Sx.list SY 0 l++[[41]]
theorem Sx.args_tail:∀ {l:List Sx.Ex} (h:0<l.length),Sx.args SY l=Sx.listed l.tail
 | x::l,h=>by rw[Sx.args];rfl
end Go.Proofs.YtdncljdfmdgdaaaGreatDoor
namespace Go.Proofs.YtdncljdfmdgdaaaGreatDoor
structure Sx.Sh where
 s:Int
 n:Bool
 t:Bool
 names:Bool
 least:Int
 most:Int
def Sx.Sh.v (h:Sx.Sh):Value:=.agg #[.int .i64 h.s,.bool h.n,.bool h.t,.bool h.names,.int .i64 h.least,.int .i64 h.most]
def Sx.shapeOf (k:Int):Sx.Sh×Bool:=
 if k=1\/k=3 then(⟨0,true,false,false,0,0⟩,true)
 else if k=2 then(⟨-1,false,false,false,0,0⟩,true)
 else if k=4 then(⟨1,false,false,false,0,0⟩,true)
 else if k=5 then(⟨0,false,false,false,0,0⟩,true)
 else if k=6 then(⟨0,false,true,false,0,0⟩,true)
 else if k=7\/k=8 then(⟨2,false,false,true,0,1073741824⟩,true)
 else if k=9 then(⟨1,false,false,false,1,1⟩,true)
 else if k=10 then(⟨1,false,false,false,1,1073741824⟩,true)
 else if k=11 then(⟨0,false,false,false,1,1073741824⟩,true)
 else if k=12 then(⟨0,false,true,false,1,1⟩,true)
 else if k=13\/k=14 then(⟨0,false,false,false,1,1⟩,true)
 else if 15<=k/\k<=21 then(⟨0,false,false,false,2,2⟩,true)
 else(⟨0,false,false,false,0,0⟩,false)
def Sx.rightText (h:Sx.Sh) (s:Lx.Bytes):Bool:=if h.s<0 then NM.said s else if h.s=0 then s.isEmpty else isTok h.s s
def Sx.b2 (ok d0 rt hn nz nn k3 n1:Bool):Bool:=!ok||(d0||(!rt||((!hn&&nz)||(nn||(k3&&n1)))))
def Sx.b4 (ht t1 t0 rt:Bool):Bool:=(ht != t1)||((!ht&&t0)||(ht&&!rt))
def Sx.b7 (hn nm ul n0 ls ms:Bool):Bool:=(hn&&(nm||!ul))||((!hn&&n0)||(ls||ms))
def Sx.right0 (t:List Sx.Ty):Bool:=match t with | []=>true | p::_=>Sx.rightT NM 64 p
def Sx.good (k n : Int) (s : Lx.Bytes) (t : List Sx.Ty) (ns : List Lx.Bytes) (m : Nat) : Bool :=
  let h := Sx.shapeOf k
  !Sx.b2 h.2 false (Sx.rightText h.1 s) h.1.n (n != 0) (decide (n < 0)) (k == 3) (decide (1 < n)) &&
  (!Sx.b4 h.1.t (t.length == 1) (decide (0 < t.length)) (Sx.right0 t) &&
   !Sx.b7 h.1.names (m != ns.length) (Sx.apart NM ns) (decide (0 < ns.length)) (decide ((m : Int) < h.1.least)) (decide (h.1.most < (m : Int))))
theorem Sx.rts1 {t:List Sx.Ty} (h:t.length=1):Sx.rightTs NM 64 t=Sx.right0 t:=by
 match t,h with
 | [p],_=>simp[Sx.rightTs,Sx.right0]
theorem Sx.good_none {k n:Int} {s:Lx.Bytes} {t:List Sx.Ty} {ns:List Lx.Bytes} {m:Nat} (hk:¬(1<=k/\k<=21)):Sx.shapeX NM k n s t ns m=Sx.good k n s t ns m:=by
 have h1:Sx.shapeX NM k n s t ns m=false:=by unfold Sx.shapeX;rw[decide_eq_false hk];rfl
 have h2:(Sx.shapeOf k).2=false:=by unfold Sx.shapeOf;rw[if_neg (by omega),if_neg (by omega),if_neg (by omega),if_neg (by omega),if_neg (by omega),if_neg (by omega),if_neg (by omega),if_neg (by omega),if_neg (by omega),if_neg (by omega),if_neg (by omega),if_neg (by omega)]
 rw[h1];unfold Sx.good;simp only[h2];simp[Sx.b2]
theorem Sx.good_eq {k n:Int} {s:Lx.Bytes} {t:List Sx.Ty} {ns:List Lx.Bytes} {m:Nat} (hm:m<=1000000):Sx.shapeX NM k n s t ns m=Sx.good k n s t ns m:=by
 by_cases hk:1<=k/\k<=21
 ·have H0:k=1\/k=2\/k=3\/k=4\/k=5\/k=6\/k=7\/k=8\/k=9\/k=10\/k=11\/k=12\/k=13\/k=14\/k=15\/k=16\/k=17\/k=18\/k=19\/k=20\/k=21:=(by omega);clear hk;have H2:=fun h:t.length=1=>Sx.rts1 (t:=t) h;have H1:(m:Int)<=1000000:=(by omega);rw[yEZ];rcases t with _ | ⟨p,_ | ⟨q,r⟩⟩
  all_goals
   rcases ns with _ | ⟨a,ns⟩
   all_goals
    rcases H0 with rfl | rfl | rfl | rfl | rfl | rfl | rfl | rfl | rfl | rfl | rfl | rfl | rfl | rfl | rfl | rfl | rfl | rfl | rfl | rfl | rfl
    all_goals
     simp[Sx.shapeX,Sx.good,Sx.shapeOf,Sx.b2,Sx.b4,Sx.b7,Sx.rightText,NM,Sx.rightTs,Sx.right0,Sx.apart]
  all_goals
   constructor
   all_goals
    intro h
    (repeat' apply And.intro)
    all_goals first | omega | exact h.1 | exact h.1.1 | exact h.2.2.1 | exact h.2.2.2.1 | exact h.2.1 | exact h.2.1.2 | (simp_all;done) | (obtain⟨⟨a1,a2⟩,a3⟩:=h;simp_all;omega)
 ·exact Sx.good_none hk
end Go.Proofs.YtdncljdfmdgdaaaGreatDoor
