/-
  The walk of coilref2.RightType.
-/
import Derived.Test.YtdncljdfmdgdaaaGreatDoorM39
set_option linter.unusedSimpArgs false
set_option linter.unusedVariables false
set_option maxRecDepth 100000
set_option maxHeartbeats 16000000
namespace Go.Proofs.YtdncljdfmdgdaaaGreatDoor
open Go.RowKit Go.Shelf
def RRightOk (d:Nat):Prop:=∀(t:Sx.Ty) (v:Value) (w0 W:World),LW w0 W->IsTy W v t->Sx.size t<=1000000->
 Calls Tryz.prog 27 #[v,.int .i64 (d:Nat)] W fun e W'=>e=.returned (.bool (Sx.rightT NM d t))/\LW W W'
theorem zrhZ:RRightOk 0:=by
 intro t v w0 W hG ht H0;have HW:=zh hG.self;obtain⟨An,cn,Ae,ce,Ap,cp,rfl,-,-,-⟩:=ht.agg;clear hG;go_enter Tryz.func27, Tryz.ntmps27;go_wp2_with fail;go_ret;rw[Sx.right_zero];exact⟨rfl,HW.o.alloc _⟩
theorem zriZ (d:Nat) (hd:d+1<=64) (ih:RRightOk d):RRightOk (d+1):=by
 intro t v w0 W hG ht J7;have HW:=zh hG.self;obtain⟨An,cn,Ae,ce,Ap,cp,rfl,hnm,hem,hp⟩:=ht.agg;obtain⟨e,he⟩:∃e:Int,((d+1:Nat):Int)=e:=⟨_,rfl⟩;have Jq:(e==0)=false:=by rw[yaZ];omega
 have Jj:1<=e:=by omega
 have Jm:e<=64:=by omega
 have Hm:∀(p:Sx.Ty) (u:Value) (X:World),LW W X->IsTy X u p->Sx.size p<=1000000->
   Calls Tryz.prog 27 #[u,.int .i64 (e-1)] X fun e X'=>e=.returned (.bool (Sx.rightT NM d p))/\LW W X'/\Below X.heap.size X X':=by
  intro p u X h1 h2 h3;rw[show e-1=(d:Int)by omega];exact(ih p u W X h1 h2 h3).mono fun e X' h=>⟨h.1,h1.trans h.2,h.2.b⟩
 have J4:=Sx.size_parts t;have Hw:=Sx.length_size t.parts;have H8:=fun s (hs:s∈t.names)=>Sx.name_len (t:=t) hs;have Hp:=zh (Sx.right_eq NM d t);obtain⟨k,hk⟩:=zE (t.parts.length);obtain⟨kd,hkd⟩:=zE (t.kind);obtain⟨nm,hnmm⟩:=zE (t.name);obtain⟨nl,hnl⟩:=zE (t.names.length);obtain⟨el,hel⟩:=zE (t.embeds.length);have Jl:(k:Int)<=1000000:=by omega
 have Jn:(nl:Int)<=1000000:=by omega
 have Jr:(el:Int)<=1000000:=by omega
 have Jo:(0:Int)<=(k:Int):=by omega
 have Js:(0:Int)<=(nl:Int):=by omega
 have Ji:(0:Int)<=(el:Int):=by omega
 have Hv:nm.length<=1000000:=by rw[<-hnmm];omega
 rw[he,hk,hkd,hnmm,hnl,hel];rw[hk]at hp;rw[hnl]at hnm;have HK:=zh hk;have H1:=zh hkd;have H3:=zh hnmm;have H4:=zh hnl;have H6:=zh hel;have Hy:=zh Hm;have Jc:=zh (show Sx.size t<=1000000 from J7);have Jg:=zh J4;have HP:=zh hp;have J8:=zh hnm;have Hq:=zh (show ∀s∈t.names,s.length<=1000000 from fun s hs=>by have:=H8 s hs;omega);obtain⟨L,hL⟩:=zE (W.heap.size);obtain⟨w2,hw2⟩:=zE (W.alloc (.cells #[.int .i64 kd,.string ⟨nm.toArray⟩,.slice An nl cn,.slice Ae el ce,.slice Ap k cp] 26));have Hc:w2.heap[L]? =some (.cells #[.int .i64 kd,.string ⟨nm.toArray⟩,.slice An nl cn,.slice Ae el ce,.slice Ap k cp] 26 (0,0)):=by rw[<-hw2,<-hL];exact ydZ W _
 have Ho:LW W w2:=by rw[<-hw2];exact HW.o.alloc _
 have J5:=zh Hc;have Jb:=zh Ho;obtain⟨x0,x1,x2,x3,x4⟩:=zcZ Hc;have Jp:=zaZ Hc;clear ih hG ht hnm hem hp he Hm J4 Hw hk hkd hnmm hnl hel Hc Ho J7 H8;go_enter Tryz.func27, Tryz.ntmps27;go_wp2_with fail;clear x0 x1 x2 x3 x4;go_loopg [5] k (fun i v wr=>∃(m:Nat),i=k-m/\v=.int .i64 (m:Int)/\m<=k/\LW W wr/\wr.heap[L]? =w2.heap[L]? /\(∀p∈t.parts.take m,Sx.rightT NM d p=true))
 case atStart=>exact⟨0,rfl,rfl,yxZ _,Jb.o,rfl,by simp⟩
 case round=>
  obtain⟨m,hi,rfl,hm,hwr,hbr,hall⟩:=hrel;rw[J5.o]at hbr;obtain⟨x0,x1,x2,x3,x4⟩:=zcZ hbr;have Hs:=zaZ hbr;have HI:=zh hi;have H0:=zh hwr;have Hb:=zh hbr;have Hg:=zh hall;have m0:(0:Int)<=(m:Int):=(by omega);clear hi hwr hbr hall;by_cases hlt:m<k
  ·have Ja:(m:Int)<(k:Int):=(by omega);have Ht:m<t.parts.length:=(by have:=HK.o;omega);obtain⟨g,off,An1,cn1,Ae1,ce1,Aq,cq,rfl,hty,hc5⟩:=HP.o.spot m Ht;obtain⟨hg,c0,c1,c2,c3,c4⟩:=hc5 wr H0.o.b;have Hi:=ykZ Ht;obtain⟨p,Ha⟩:=zE (t.parts[m]'Ht);have H9:p∈t.parts:=(by rw[<-Ha];exact yfZ Ht);rw[Ha]at c0 c1 c2 c3 c4 Hi hty;have J9:Sx.size p<=1000000:=(by have:=Sx.size_mem H9;have:=Jg.o;have:=Jc.o;omega);have Hj:=zh H9;have Hx:=zh Hi;have J3:=Hy.o p _ wr H0.o (IsTy.below H0.o.b _ _ hty) J9;have Hu:=zh J3;clear hty hc5 Ha H9 Hi J9 J3;go_wp2_with fail
   cases hpr:Sx.rightT NM d p with
   | true=>
    rw[hpr]at Hu;have Jh:=zh hpr;clear hpr;refine Hu.o.mono ?_;rintro e w5 ⟨rfl,H5,J2⟩;go_wp2_with fail;go_roundg (k-(m+1))
    case measure=>have:=HI.o;omega
    case rel=>
     refine⟨m+1,rfl,by simp,hlt,H5,?_,?_⟩
     ·rw[J5.o,J2.block L Hs,Hb.o]
     ·rw[Hx.o];intro q hq;rcases yfbZ.1 hq with h | h
      ·exact Hg.o q h
      ·rw[yWZ]at h;rw[h];exact Jh.o
   | false=>rw[hpr]at Hu;have HF:=zh (show Sx.rightT NM (d+1) t=false by rw[Hp.o,Sx.rights_not NM d Hj.o hpr];rfl);clear hpr;refine Hu.o.mono ?_;rintro e w5 ⟨rfl,H5,J2⟩;go_wp2_with fail;go_ret;rw[HF.o];exact⟨rfl,H5⟩
  ·have Ja:¬(m:Int)<(k:Int):=by omega
   have H2:=zh (show Sx.rightT NM (d+1) t=Sx.shape NM t.kind t.name t.names t.embeds t.parts by
    rw[Hp.o,Sx.rights_all NM d]
    ·rfl
    ·have h:=Hg.o
     rwa [yjZ (by have:=HK.o;omega)]at h)
   clear hlt hm;go_upto_region 8 with(fail)
   go_cut [6] (fun v wx=>v=.bool (Sx.plain t)/\wx=wr)
   case first=>
    have Ha:Sx.plain t=(nm.isEmpty&&((nl==0)&&(el==0))):=(by unfold Sx.plain;rw[H3.o,<-H4.o,<-H6.o];cases t.names <;> cases t.embeds <;> rfl);have Hr:=zh Ha;clear Ha
    cases hb1:nm.isEmpty with
    | false=>
     go_wp2_with fail
     go_meet
     exact⟨by rw[Hr.o,hb1];rfl,rfl⟩
    | true=>
     by_cases hb2:nl=0
     ·have b2:((nl:Int)==0)=true:=(by rw[ytZ];omega);have Hf:=zh (show(nl==0)=true by rw[ytZ];omega);clear hb2;by_cases hb3:el=0
      ·have b3:((el:Int)==0)=true:=(by rw[ytZ];omega);have Hk:=zh (show(el==0)=true by rw[ytZ];omega);clear hb3;go_wp2_with fail
       go_meet
       exact⟨by rw[Hr.o,hb1,Hf.o,Hk.o];rfl,rfl⟩
      ·have b3:((el:Int)==0)=false:=(by rw[yaZ];omega);have Hk:=zh (show(el==0)=false by rw[yaZ];omega);clear hb3;go_wp2_with fail
       go_meet
       exact⟨by rw[Hr.o,hb1,Hf.o,Hk.o];rfl,rfl⟩
     ·have b2:((nl:Int)==0)=false:=(by rw[yaZ];omega);have Hf:=zh (show(nl==0)=false by rw[yaZ];omega);clear hb2;go_wp2_with fail
      go_meet
      exact⟨by rw[Hr.o,hb1,Hf.o];rfl,rfl⟩
   case rest=>
    obtain⟨rfl,hwc⟩:=hcut;subst hwc;by_cases hk1:kd=1
    ·subst hk1
     cases hpl:Sx.plain t with
     | true=>
      by_cases hc:k=0
      ·have bhc:((k:Int)==0)=true:=(by rw[ytZ];omega);have Hhc:=zh (show(t.parts.length==0)=true by have:=HK.o;have:=H4.o;have:=H6.o;rw[ytZ];omega);clear hc;have HS:=zh (show Sx.shape NM 1 t.name t.names t.embeds t.parts=true by rw[Sx.shape1,hpl,Hhc.o];rfl);go_wp2_with fail;go_ret;refine⟨?_,H0.o⟩;rw[H2.o,H1.o,HS.o]
       try rfl
      ·have bhc:((k:Int)==0)=false:=(by rw[yaZ];omega);have Hhc:=zh (show(t.parts.length==0)=false by have:=HK.o;have:=H4.o;have:=H6.o;rw[yaZ];omega);clear hc;have HS:=zh (show Sx.shape NM 1 t.name t.names t.embeds t.parts=false by rw[Sx.shape1,hpl,Hhc.o];rfl);go_wp2_with fail;go_ret;refine⟨?_,H0.o⟩;rw[H2.o,H1.o,HS.o]
       try rfl
     | false=>
      have HS:=zh (show Sx.shape NM 1 t.name t.names t.embeds t.parts=false by rw[Sx.shape1,hpl];rfl);go_wp2_with fail;go_ret;refine⟨?_,H0.o⟩;rw[H2.o,H1.o,HS.o]
      try rfl
    by_cases hk2:kd=2
    ·subst hk2
     cases hpl:Sx.plain t with
     | true=>
      by_cases hc:k=0
      ·have bhc:((k:Int)==0)=true:=(by rw[ytZ];omega);have Hhc:=zh (show(t.parts.length==0)=true by have:=HK.o;have:=H4.o;have:=H6.o;rw[ytZ];omega);clear hc;have HS:=zh (show Sx.shape NM 2 t.name t.names t.embeds t.parts=true by rw[Sx.shape2,hpl,Hhc.o];rfl);go_wp2_with fail;go_ret;refine⟨?_,H0.o⟩;rw[H2.o,H1.o,HS.o]
       try rfl
      ·have bhc:((k:Int)==0)=false:=(by rw[yaZ];omega);have Hhc:=zh (show(t.parts.length==0)=false by have:=HK.o;have:=H4.o;have:=H6.o;rw[yaZ];omega);clear hc;have HS:=zh (show Sx.shape NM 2 t.name t.names t.embeds t.parts=false by rw[Sx.shape2,hpl,Hhc.o];rfl);go_wp2_with fail;go_ret;refine⟨?_,H0.o⟩;rw[H2.o,H1.o,HS.o]
       try rfl
     | false=>
      have HS:=zh (show Sx.shape NM 2 t.name t.names t.embeds t.parts=false by rw[Sx.shape2,hpl];rfl);go_wp2_with fail;go_ret;refine⟨?_,H0.o⟩;rw[H2.o,H1.o,HS.o]
      try rfl
    by_cases hk3:kd=3
    ·subst hk3
     cases hpl:Sx.plain t with
     | true=>
      by_cases hc:k=0
      ·have bhc:((k:Int)==0)=true:=(by rw[ytZ];omega);have Hhc:=zh (show(t.parts.length==0)=true by have:=HK.o;have:=H4.o;have:=H6.o;rw[ytZ];omega);clear hc;have HS:=zh (show Sx.shape NM 3 t.name t.names t.embeds t.parts=true by rw[Sx.shape3,hpl,Hhc.o];rfl);go_wp2_with fail;go_ret;refine⟨?_,H0.o⟩;rw[H2.o,H1.o,HS.o]
       try rfl
      ·have bhc:((k:Int)==0)=false:=(by rw[yaZ];omega);have Hhc:=zh (show(t.parts.length==0)=false by have:=HK.o;have:=H4.o;have:=H6.o;rw[yaZ];omega);clear hc;have HS:=zh (show Sx.shape NM 3 t.name t.names t.embeds t.parts=false by rw[Sx.shape3,hpl,Hhc.o];rfl);go_wp2_with fail;go_ret;refine⟨?_,H0.o⟩;rw[H2.o,H1.o,HS.o]
       try rfl
     | false=>
      have HS:=zh (show Sx.shape NM 3 t.name t.names t.embeds t.parts=false by rw[Sx.shape3,hpl];rfl);go_wp2_with fail;go_ret;refine⟨?_,H0.o⟩;rw[H2.o,H1.o,HS.o]
      try rfl
    by_cases hk5:kd=5
    ·subst hk5
     cases hpl:Sx.plain t with
     | true=>
      by_cases hc:k=1
      ·have bhc:((k:Int)==1)=true:=(by rw[ytZ];omega);have Hhc:=zh (show(t.parts.length==1)=true by have:=HK.o;have:=H4.o;have:=H6.o;rw[ytZ];omega);clear hc;have HS:=zh (show Sx.shape NM 5 t.name t.names t.embeds t.parts=true by rw[Sx.shape5,hpl,Hhc.o];rfl);go_wp2_with fail;go_ret;refine⟨?_,H0.o⟩;rw[H2.o,H1.o,HS.o]
       try rfl
      ·have bhc:((k:Int)==1)=false:=(by rw[yaZ];omega);have Hhc:=zh (show(t.parts.length==1)=false by have:=HK.o;have:=H4.o;have:=H6.o;rw[yaZ];omega);clear hc;have HS:=zh (show Sx.shape NM 5 t.name t.names t.embeds t.parts=false by rw[Sx.shape5,hpl,Hhc.o];rfl);go_wp2_with fail;go_ret;refine⟨?_,H0.o⟩;rw[H2.o,H1.o,HS.o]
       try rfl
     | false=>
      have HS:=zh (show Sx.shape NM 5 t.name t.names t.embeds t.parts=false by rw[Sx.shape5,hpl];rfl);go_wp2_with fail;go_ret;refine⟨?_,H0.o⟩;rw[H2.o,H1.o,HS.o]
      try rfl
    by_cases hk7:kd=7
    ·subst hk7
     cases hpl:Sx.plain t with
     | true=>
      by_cases hc:1<=k
      ·have bhc:(0:Int)<(k:Int):=(by omega);have Hhc:=zh (show decide (1<=t.parts.length)=true by have:=HK.o;rw[yCZ];omega);clear hc;have HS:=zh (show Sx.shape NM 7 t.name t.names t.embeds t.parts=true by rw[Sx.shape7,hpl,Hhc.o];rfl);go_wp2_with fail;go_ret;refine⟨?_,H0.o⟩;rw[H2.o,H1.o,HS.o];show Ending.returned (Value.bool (decide (0<k)))=_;rw[decide_eq_true (show 0<k by omega)]
      ·have bhc:¬(0:Int)<(k:Int):=(by omega);have Hhc:=zh (show decide (1<=t.parts.length)=false by have:=HK.o;rw[yvZ];omega);have Jf:k=0:=(by omega);clear hc;subst Jf;have HS:=zh (show Sx.shape NM 7 t.name t.names t.embeds t.parts=false by rw[Sx.shape7,hpl,Hhc.o];rfl);go_wp2_with fail;go_ret;refine⟨?_,H0.o⟩;rw[H2.o,H1.o,HS.o]
       try rfl
     | false=>
      have HS:=zh (show Sx.shape NM 7 t.name t.names t.embeds t.parts=false by rw[Sx.shape7,hpl];rfl);go_wp2_with fail;go_ret;refine⟨?_,H0.o⟩;rw[H2.o,H1.o,HS.o]
      try rfl
    by_cases hk4:kd=4
    ·subst hk4;have Hn:=zh (zjyZ H0.o.self nm Hv)
     cases hg:NM.great nm with
     | true=>
      rw[hg]at Hn;by_cases hz:nl=0/\el=0/\k=0
      ·obtain⟨rfl,rfl,rfl⟩:=hz;have HS:=zh (show Sx.shape NM 4 t.name t.names t.embeds t.parts=true by rw[Sx.shape4,H3.o,hg,H4.o,H6.o,HK.o];rfl);go_wp2_with (go_at_call 67;refine Hn.o.mono ?_;rintro e w5 ⟨rfl,H5⟩;have Hh:=(H5.b.block L Hs).trans Hb.o;obtain⟨x0,x1,x2,x3,x4⟩:=zcZ Hh;have J1:=zaZ Hh);go_ret;refine⟨?_,H0.o.trans H5⟩;rw[H2.o,H1.o,HS.o]
       try rfl
      ·have bz:((nl:Int)+(el:Int)+(k:Int)==0)=false:=(by rw[yaZ];omega);have Jd:((nl==0)&&((el==0)&&(k==0)))=false:=(by cases h1:(nl==0) <;> cases h2:(el==0) <;> cases h3:(k==0) <;> simp_all);have HS:=zh (show Sx.shape NM 4 t.name t.names t.embeds t.parts=false by rw[Sx.shape4,H3.o,hg,H4.o,H6.o,HK.o,Jd];rfl);go_wp2_with (go_at_call 67;refine Hn.o.mono ?_;rintro e w5 ⟨rfl,H5⟩;have Hh:=(H5.b.block L Hs).trans Hb.o;obtain⟨x0,x1,x2,x3,x4⟩:=zcZ Hh;have J1:=zaZ Hh);go_ret;refine⟨?_,H0.o.trans H5⟩;rw[H2.o,H1.o,HS.o]
       try rfl
     | false=>
      rw[hg]at Hn;have HS:=zh (show Sx.shape NM 4 t.name t.names t.embeds t.parts=false by rw[Sx.shape4,H3.o,hg];rfl);go_wp2_with (go_at_call 67;refine Hn.o.mono ?_;rintro e w5 ⟨rfl,H5⟩;have Hh:=(H5.b.block L Hs).trans Hb.o;obtain⟨x0,x1,x2,x3,x4⟩:=zcZ Hh;have J1:=zaZ Hh);go_ret;refine⟨?_,H0.o.trans H5⟩;rw[H2.o,H1.o,HS.o]
      try rfl
    by_cases hk6:kd=6
    ·subst hk6;have Hd:=zh ((ziaZ H0.o t.names (.slice An nl cn) (J8.o.below H0.o.b) (by have:=H4.o;omega) Hq.o).mono fun e w' h=>(show e=.returned (.bool (Sx.apart NM t.names))/\LW W w' from⟨h.1,H0.o.trans h.2⟩))
     cases hn:nm.isEmpty with
     | true=>
      by_cases h1:nl=k
      ·have bh1:((nl:Int)==(k:Int))=true:=(by rw[ytZ];omega);have Hh1:=zh (show(t.names.length==t.parts.length)=true by have:=HK.o;have:=H4.o;have:=H6.o;rw[ytZ];omega);clear h1;by_cases h2:el=k
       ·have bh2:((el:Int)==(k:Int))=true:=(by rw[ytZ];omega);have Hh2:=zh (show(t.embeds.length==t.parts.length)=true by have:=HK.o;have:=H4.o;have:=H6.o;rw[ytZ];omega);clear h2
        cases hu:Sx.apart NM t.names with
        | true=>
         rw[hu]at Hd;have HS:=zh (show Sx.shape NM 6 t.name t.names t.embeds t.parts=true by have e1:=Hh1.o;have e2:=Hh2.o;rw[Sx.shape6,H3.o,hn,hu,show(t.embeds.length==t.names.length)=true by(rw[ytZ]at e1 e2 ⊢;omega),show(t.parts.length==t.names.length)=true by(rw[ytZ]at e1 ⊢;omega)];rfl);go_wp2_with (go_at_call 68;refine Hd.o.mono ?_;rintro e w5 ⟨rfl,H5⟩);go_ret;refine⟨?_,H5⟩;rw[H2.o,H1.o,HS.o]
         try rfl
        | false=>
         rw[hu]at Hd;have HS:=zh (show Sx.shape NM 6 t.name t.names t.embeds t.parts=false by rw[Sx.shape6,hu];simp);go_wp2_with (go_at_call 68;refine Hd.o.mono ?_;rintro e w5 ⟨rfl,H5⟩);go_ret;refine⟨?_,H5⟩;rw[H2.o,H1.o,HS.o]
         try rfl
       ·have bh2:((el:Int)==(k:Int))=false:=(by rw[yaZ];omega);have Hh2:=zh (show(t.embeds.length==t.parts.length)=false by have:=HK.o;have:=H4.o;have:=H6.o;rw[yaZ];omega);clear h2;have HS:=zh (show Sx.shape NM 6 t.name t.names t.embeds t.parts=false by have e1:=Hh1.o;have e2:=Hh2.o;rw[Sx.shape6,H3.o,hn,show(t.embeds.length==t.names.length)=false by(rw[ytZ]at e1;rw[yaZ]at e2 ⊢;omega)];rfl);go_wp2_with fail;go_ret;refine⟨?_,H0.o⟩;rw[H2.o,H1.o,HS.o]
        try rfl
      ·have bh1:((nl:Int)==(k:Int))=false:=(by rw[yaZ];omega);have Hh1:=zh (show(t.names.length==t.parts.length)=false by have:=HK.o;have:=H4.o;have:=H6.o;rw[yaZ];omega);clear h1;have HS:=zh (show Sx.shape NM 6 t.name t.names t.embeds t.parts=false by have e1:=Hh1.o;rw[Sx.shape6,H3.o,hn,show(t.parts.length==t.names.length)=false by(rw[yaZ]at e1 ⊢;omega)];simp);go_wp2_with fail;go_ret;refine⟨?_,H0.o⟩;rw[H2.o,H1.o,HS.o]
       try rfl
     | false=>
      have HS:=zh (show Sx.shape NM 6 t.name t.names t.embeds t.parts=false by rw[Sx.shape6,H3.o,hn];rfl);go_wp2_with fail;go_ret;refine⟨?_,H0.o⟩;rw[H2.o,H1.o,HS.o]
      try rfl
    by_cases hk8:kd=8
    ·subst hk8;go_wp2_with fail;go_loopg [7] k (fun i v wq=>∃(m:Nat),i=k-m/\v=.int .i64 (m:Int)/\m<=k/\wq=wc/\(∀p∈t.parts.take m,p.kind=7))
     case atStart=>exact⟨0,rfl,rfl,yxZ _,rfl,by simp⟩
     case round=>
      obtain⟨m2,hi2,rfl,hm2,rfl,hr2⟩:=hrel;have Je:=zh hi2;have J0:=zh hr2;have m20:(0:Int)<=(m2:Int):=(by omega);clear hi2 hr2;by_cases hlt2:m2<k
      ·have Hz:(m2:Int)<(k:Int):=(by omega);have He:m2<t.parts.length:=(by have:=HK.o;omega);obtain⟨g,off,An1,cn1,Ae1,ce1,Aq,cq,rfl,hty,hc5⟩:=HP.o.spot m2 He;obtain⟨hg,c0,c1,c2,c3,c4⟩:=hc5 wr H0.o.b;have Hi:=ykZ He;obtain⟨p,Ha⟩:=zE (t.parts[m2]'He);have H9:p∈t.parts:=(by rw[<-Ha];exact yfZ He);rw[Ha]at c0 c1 c2 c3 c4 Hi;obtain⟨kp,hkp⟩:=zE (p.kind);rw[hkp]at c0;have Hj:=zh H9;have Hx:=zh Hi;have J6:=zh hkp;clear hty hc5 Ha H9 Hi hkp;by_cases h7:kp=7
       ·have b7:(kp != 7)=false:=(by simp[h7]);have H7:=zh h7;clear h7;go_wp2_with fail;go_roundg (k-(m2+1))
        case measure=>have:=Je.o;omega
        case rel=>
         refine⟨m2+1,rfl,by simp,hlt2,rfl,?_⟩;rw[Hx.o];intro q hq;rcases yfbZ.1 hq with h | h
         ·exact J0.o q h
         ·rw[yWZ]at h;rw[h,J6.o,H7.o]
       ·have b7:(kp != 7)=true:=by simp[h7]
        have HS:=zh (show Sx.shape NM 8 t.name t.names t.embeds t.parts=false by
         rw[Sx.shape8];have:(t.parts.all fun p=>p.kind==7)=false:=by rw[List.all_eq_false];exact⟨p,Hj.o,by simp[J6.o,h7]⟩
         rw[this];rfl)
        clear h7;go_wp2_with fail;go_ret;refine⟨?_,H0.o⟩;rw[H2.o,H1.o,HS.o]
        try rfl
      ·have Hz:¬(m2:Int)<(k:Int):=by omega
       have Hl:=zh (show(t.parts.all fun p=>p.kind==7)=true by
        rw[yZZ];intro p hp;have:=J0.o p (by rw[yjZ (by have:=HK.o;omega)];exact hp)
        simp[this])
       have Hd:=zh ((ziaZ H0.o t.names (.slice An nl cn) (J8.o.below H0.o.b) (by have:=H4.o;omega) Hq.o).mono fun e w' h=>(show e=.returned (.bool (Sx.apart NM t.names))/\LW W w' from⟨h.1,H0.o.trans h.2⟩))
       cases hn:nm.isEmpty with
       | true=>
        by_cases h1:nl=k
        ·have bh1:((nl:Int)==(k:Int))=true:=(by rw[ytZ];omega);have Hh1:=zh (show(t.names.length==t.parts.length)=true by have:=HK.o;have:=H4.o;have:=H6.o;rw[ytZ];omega);clear h1;by_cases h2:el=0
         ·have bh2:((el:Int)==0)=true:=(by rw[ytZ];omega);have Hh2:=zh (show(t.embeds.length==0)=true by have:=HK.o;have:=H4.o;have:=H6.o;rw[ytZ];omega);clear h2
          cases hu:Sx.apart NM t.names with
          | true=>
           rw[hu]at Hd;have HS:=zh (show Sx.shape NM 8 t.name t.names t.embeds t.parts=true by have e1:=Hh1.o;rw[Sx.shape8,Hl.o,H3.o,hn,hu,Hh2.o,show(t.parts.length==t.names.length)=true by(rw[ytZ]at e1 ⊢;omega)];rfl);go_wp2_with (go_at_call 68;refine Hd.o.mono ?_;rintro e w5 ⟨rfl,H5⟩);go_ret;refine⟨?_,H5⟩;rw[H2.o,H1.o,HS.o]
           try rfl
          | false=>
           rw[hu]at Hd;have HS:=zh (show Sx.shape NM 8 t.name t.names t.embeds t.parts=false by rw[Sx.shape8,hu];simp);go_wp2_with (go_at_call 68;refine Hd.o.mono ?_;rintro e w5 ⟨rfl,H5⟩);go_ret;refine⟨?_,H5⟩;rw[H2.o,H1.o,HS.o]
           try rfl
         ·have bh2:((el:Int)==0)=false:=(by rw[yaZ];omega);have Hh2:=zh (show(t.embeds.length==0)=false by have:=HK.o;have:=H4.o;have:=H6.o;rw[yaZ];omega);clear h2;have HS:=zh (show Sx.shape NM 8 t.name t.names t.embeds t.parts=false by rw[Sx.shape8,Hl.o,H3.o,hn,Hh2.o];rfl);go_wp2_with fail;go_ret;refine⟨?_,H0.o⟩;rw[H2.o,H1.o,HS.o]
          try rfl
        ·have bh1:((nl:Int)==(k:Int))=false:=(by rw[yaZ];omega);have Hh1:=zh (show(t.names.length==t.parts.length)=false by have:=HK.o;have:=H4.o;have:=H6.o;rw[yaZ];omega);clear h1;have HS:=zh (show Sx.shape NM 8 t.name t.names t.embeds t.parts=false by have e1:=Hh1.o;rw[Sx.shape8,show(t.parts.length==t.names.length)=false by(rw[yaZ]at e1 ⊢;omega)];simp);go_wp2_with fail;go_ret;refine⟨?_,H0.o⟩;rw[H2.o,H1.o,HS.o]
         try rfl
       | false=>
        have HS:=zh (show Sx.shape NM 8 t.name t.names t.embeds t.parts=false by rw[Sx.shape8,Hl.o,H3.o,hn];rfl);go_wp2_with fail;go_ret;refine⟨?_,H0.o⟩;rw[H2.o,H1.o,HS.o]
        try rfl
    have e1:(kd==1)=false:=(by simp[hk1]);have e2:(kd==2)=false:=(by simp[hk2]);have e3:(kd==3)=false:=(by simp[hk3]);have e4:(kd==4)=false:=(by simp[hk4]);have e5:(kd==5)=false:=(by simp[hk5]);have e6:(kd==6)=false:=(by simp[hk6]);have e7:(kd==7)=false:=(by simp[hk7]);have e8:(kd==8)=false:=(by simp[hk8]);have HS:=zh (show Sx.shape NM kd t.name t.names t.embeds t.parts=false by unfold Sx.shape;rw[if_neg (by omega),if_neg hk4,if_neg hk5,if_neg hk7,if_neg hk6,if_neg hk8]);clear hk1 hk2 hk3 hk4 hk5 hk6 hk7 hk8;go_wp2_with fail;go_ret;refine⟨?_,H0.o⟩;rw[H2.o,H1.o,HS.o]
    try rfl
theorem zibZ:∀(d:Nat),d<=64->RRightOk d
 | 0,_=>zrhZ
 | d+1,h=>zriZ d h (zibZ d (by omega))
end Go.Proofs.YtdncljdfmdgdaaaGreatDoor
