/-
  The walks of coilkeep.Type, Types.
-/
import Derived.Test.YtdncljdfmdgdaaaGreatDoorM18
set_option linter.unusedSimpArgs false
set_option linter.unusedVariables false
set_option maxRecDepth 100000
set_option maxHeartbeats 8000000
namespace Go.Proofs.YtdncljdfmdgdaaaGreatDoor
open Go.RowKit Go.Shelf
mutual
def Sx.eqT:Sx.Ty->Sx.Ty->Bool
 | .mk k n ns es ps,.mk k' n' ns' es' ps'=>(k==k')&&((n==n')&&(decide (ns=ns')&&(decide (es=es')&&Sx.eqTs ps ps')))
def Sx.eqTs:List Sx.Ty->List Sx.Ty->Bool
 | [],[]=>true
 | t::l,u::m=>Sx.eqT t u&&Sx.eqTs l m
 | _,_=>false
end
mutual
theorem Sx.eqT_iff:∀(t u:Sx.Ty),Sx.eqT t u=true↔t=u
 | .mk k n ns es ps,.mk k' n' ns' es' ps'=>by rw[Sx.eqT];simp[Sx.eqTs_iff ps ps']
theorem Sx.eqTs_iff:∀(l m:List Sx.Ty),Sx.eqTs l m=true↔l=m
 | [],[]=>by simp[Sx.eqTs]
 | t::l,u::m=>by rw[Sx.eqTs,ygZ,Sx.eqT_iff t u,Sx.eqTs_iff l m];simp
 | [],u::m=>by simp[Sx.eqTs]
 | t::l,[]=>by simp[Sx.eqTs]
end
def KTyOk (t:Sx.Ty):Prop:=∀(u:Sx.Ty) (v x:Value) (W:World),Sx.size t<=1000000->Sx.size u<=1000000->IsTy W v t->IsTy W x u->
 Calls Tryz.prog 30 #[v,x] W fun e W'=>e=.returned (.bool (Sx.eqT t u))/\Below W.heap.size W W'
def KTysOk (l:List Sx.Ty):Prop:=∀(m:List Sx.Ty) (v x:Value) (W:World),Sx.sizeL l<=1000000->Sx.sizeL m<=1000000->TyRow W v l->TyRow W x m->
 Calls Tryz.prog 72 #[v,x] W fun e W'=>e=.returned (.bool (Sx.eqTs l m))/\Below W.heap.size W W'
theorem zgeZ (l:List Sx.Ty) (ih:∀t∈l,KTyOk t):KTysOk l:=by
 intro m v x W He Hd hv hx;have Hn:=Sx.length_size l;have Hm:=Sx.length_size m;obtain⟨A1,c1,rfl,hca,hra⟩:=hv;obtain⟨A2,c2,rfl,hcb,hrb⟩:=hx;have HV:=zh (show TyRow W (.slice A1 l.length c1) l from⟨A1,c1,rfl,hca,hra⟩);have HX:=zh (show TyRow W (.slice A2 m.length c2) m from⟨A2,c2,rfl,hcb,hrb⟩);clear hca hra hcb hrb;obtain⟨k,hk⟩:=zE (l.length);obtain⟨j,hj⟩:=zE (m.length);rw[hk]at HV ⊢;rw[hj]at HX ⊢;have k0:(0:Int)<=(k:Int):=by omega
 have k1:(k:Int)<=1000000:=by omega
 have j0:(0:Int)<=(j:Int):=by omega
 have j1:(j:Int)<=1000000:=by omega
 have HK:=zh hk;have HJ:=zh hj;have Hk:=zh He;have Hi:=zh Hd;have Hl:=zh ih;obtain⟨L,hL⟩:=zE (W.heap.size);have HL:=zh hL;clear hk hj Hn Hm He Hd ih hL;by_cases hkj:k=j
 ·subst hkj;have Hb:=zh (show m.length=k from HJ.o);go_enter Tryz.func72, Tryz.ntmps72;go_wp2_with fail;go_loopg [5] k (fun i v wr=>∃(q:Nat),i=k-q/\v=.int .i64 (q:Int)/\q<=k/\l.take q=m.take q/\Below L W wr)
  case atStart=>exact⟨0,rfl,rfl,yxZ _,by simp,yqZ _ _⟩
  case round=>
   obtain⟨q,hi,rfl,hq,he,hb⟩:=hrel;have HI:=zh hi;have HE:=zh he;have HB:=zh hb;have q0:(0:Int)<=(q:Int):=(by omega);have hLs:L<=wr.heap.size:=(by have:=hb.size;have:=HL.o;omega);clear hi he hb;by_cases hlt:q<k
   ·have Hh:(q:Int)<(k:Int):=(by omega);have H0:q<l.length:=(by have:=HK.o;omega);have H2:q<m.length:=(by have:=Hb.o;omega);obtain⟨g,off,An,cn,Ae,ce,Aq,cq,rfl,hty,hc5⟩:=HV.o.spot q H0;obtain⟨g2,off2,Bn,dn,Be,de,Bq,dq,rfl,hty2,hd5⟩:=HX.o.spot q H2;rw[HL.o]at hc5 hd5;obtain⟨hg,x0,x1,x2,x3,x4⟩:=hc5 wr HB.o;obtain⟨hg2,y0,y1,y2,y3,y4⟩:=hd5 wr HB.o;have H9:=fun h:l[q]'H0=m[q]'H2=>zecZ HE.o H0 H2 h;have Hc:=Sx.size_mem (yfZ H0);have H3:=Sx.size_mem (yfZ H2);have H1:=yfZ H0;have H8:l[q]'H0≠m[q]'H2->Sx.eqTs l m=false:=fun h=>by
     cases hh:Sx.eqTs l m with
     | false=>rfl
     | true=>have:=(Sx.eqTs_iff l m).1 hh;subst this;exact absurd rfl h
    obtain⟨p,hp⟩:=zE (l[q]'H0);obtain⟨p2,hp2⟩:=zE (m[q]'H2);rw[hp]at x0 x1 x2 x3 x4 hty Hc H1;rw[hp2]at y0 y1 y2 y3 y4 hty2 H3;rw[hp,hp2]at H9 H8;have H6:Below W.heap.size W wr.drew:=(by rw[HL.o];exact Below.drew HB.o);have Ha:=Hl.o p H1 p2 _ _ wr.drew (by have:=Hk.o;omega) (by have:=Hi.o;omega) (IsTy.below H6 _ _ hty) (IsTy.below H6 _ _ hty2);have H5:=zh Ha;have Hj:=zh H9;have Hg:=zh H8;clear hty hty2 hc5 hd5 Hc H3 H1 hp hp2 H6 Ha H9 H8;go_upto_region 6 with fail
    cases hc:Sx.eqT p p2 with
    | true=>
     rw[hc]at H5;have Hf:=zh (Hj.o ((Sx.eqT_iff p p2).1 hc));clear hc
     go_region_with (go_at_call 30;refine H5.o.mono ?_;rintro e w5 ⟨rfl,H4⟩)
     all_goals
      have H7:=zh ((Below.drew HB.o).trans (H4.mono hLs));clear H4;go_wp2_with fail;go_roundg (k-(q+1))
      case measure=>have:=HI.o;omega
      case rel=>exact⟨q+1,rfl,by simp,hlt,Hf.o,H7.o⟩
    | false=>
     rw[hc]at H5;have HF:=zh (Hg.o (fun h=>by have:=(Sx.eqT_iff p p2).2 h;rw[hc]at this;cases this));clear hc
     go_region_with (go_at_call 30;refine H5.o.mono ?_;rintro e w5 ⟨rfl,H4⟩)
     all_goals
      have H7:=zh ((Below.drew HB.o).trans (H4.mono hLs));clear H4;go_wp2_with fail;go_ret;rw[HF.o,HL.o];exact⟨rfl,H7.o⟩
   ·have Hh:¬(q:Int)<(k:Int):=by omega
    have HF:=zh (show Sx.eqTs l m=true by
     have h:=HE.o;rw[yjZ (by have:=HK.o;omega),yjZ (by have:=Hb.o;omega)]at h
     exact(Sx.eqTs_iff l m).2 h)
    go_wp2_with fail
    go_ret;rw[HF.o,HL.o];exact⟨rfl,HB.o⟩
 ·have hb:((k:Int) != (j:Int))=true:=by rw[bne_iff_ne];omega
  have HF:=zh (show Sx.eqTs l m=false by
   cases hh:Sx.eqTs l m with
   | false=>rfl
   | true=>have:=(Sx.eqTs_iff l m).1 hh;subst this;have:=HK.o;have:=HJ.o;omega)
  go_enter Tryz.func72, Tryz.ntmps72
  go_wp2_with fail
  go_ret;rw[HF.o];exact⟨rfl,yqZ _ _⟩
theorem Sx.eqT_parts (t u:Sx.Ty):Sx.eqT t u=((t.kind==u.kind)&&((t.name==u.name)&&(decide (t.names=u.names)&&(decide (t.embeds=u.embeds)&&Sx.eqTs t.parts u.parts)))):=by
 cases t;cases u;rw[Sx.eqT];rfl
theorem zpzZ (t:Sx.Ty) (ih:KTysOk t.parts):KTyOk t:=by
 intro u v x W Hd Hc hv hx;have Hb:=Sx.size_parts t;have Ha:=Sx.size_parts u;have H8:=Sx.length_size t.parts;have H9:=Sx.length_size u.parts;have H7:=Sx.eqT_parts t u;obtain⟨An,cn,Ae,ce,Ap,cp,rfl,h1,h2,h3⟩:=hv.agg;obtain⟨Bn,dn,Be,de,Bp,dp,rfl,h4,h5,h6⟩:=hx.agg;have hT:=fun X (hX:Below W.heap.size W X)=>zjsZ t.names u.names _ _ X (h1.below hX) (h4.below hX) (by omega) (by omega);have hB:=fun X (hX:Below W.heap.size W X)=>zpoZ t.embeds u.embeds _ _ X (h2.below hX) (h5.below hX) (by omega) (by omega);have hP:=fun X (hX:Below W.heap.size W X)=>ih u.parts _ _ X (by omega) (by omega) (h3.below hX) (h6.below hX);obtain⟨b1,e1⟩:=zE ((t.kind==u.kind));obtain⟨b2,e2⟩:=zE ((t.name==u.name));obtain⟨b3,e3⟩:=zE (decide (t.names=u.names));obtain⟨b4,e4⟩:=zE (decide (t.embeds=u.embeds));obtain⟨b5,e5⟩:=zE (Sx.eqTs t.parts u.parts);rw[e1,e2,e3,e4,e5]at H7;rw[e3]at hT;rw[e4]at hB;rw[e5]at hP;rw[H7];obtain⟨kt,hkt⟩:=zE (t.kind);obtain⟨ku,hku⟩:=zE (u.kind);obtain⟨nt,hnt⟩:=zE (t.name);obtain⟨nu,hnu⟩:=zE (u.name);rw[hkt,hku]at e1;rw[hnt,hnu]at e2;rw[hkt,hku,hnt,hnu];obtain⟨L,hL⟩:=zE (W.heap.size);obtain⟨w2,hw2⟩:=zE (W.alloc (.cells #[.int .i64 kt,.string ⟨nt.toArray⟩,.slice An t.names.length cn,.slice Ae t.embeds.length ce,.slice Ap t.parts.length cp] 26));obtain⟨L5,hL5⟩:=zE (w2.heap.size);obtain⟨w3,hw3⟩:=zE (w2.alloc (.cells #[.int .i64 ku,.string ⟨nu.toArray⟩,.slice Bn u.names.length dn,.slice Be u.embeds.length de,.slice Bp u.parts.length dp] 26));have g2:=yeZ W (.cells #[.int .i64 kt,.string ⟨nt.toArray⟩,.slice An t.names.length cn,.slice Ae t.embeds.length ce,.slice Ap t.parts.length cp] 26) none;have x2:=ydZ W (.cells #[.int .i64 kt,.string ⟨nt.toArray⟩,.slice An t.names.length cn,.slice Ae t.embeds.length ce,.slice Ap t.parts.length cp] 26);rw[hw2]at g2 x2;have g3:=yeZ w2 (.cells #[.int .i64 ku,.string ⟨nu.toArray⟩,.slice Bn u.names.length dn,.slice Be u.embeds.length de,.slice Bp u.parts.length dp] 26) none;have x3:=ydZ w2 (.cells #[.int .i64 ku,.string ⟨nu.toArray⟩,.slice Bn u.names.length dn,.slice Be u.embeds.length de,.slice Bp u.parts.length dp] 26);rw[hw3]at g3 x3;rw[hL]at x2;rw[hL5]at x3;have H3:=zh (show Held2 L W #[.int .i64 kt,.string ⟨nt.toArray⟩,.slice An t.names.length cn,.slice Ae t.embeds.length ce,.slice Ap t.parts.length cp] 26 L5 #[.int .i64 ku,.string ⟨nu.toArray⟩,.slice Bn u.names.length dn,.slice Be u.embeds.length de,.slice Bp u.parts.length dp] 26 w3 from⟨by rw[<-hL];exact(zeZ g2).trans ((zeZ g3).mono g2.size),(g3.block L (zaZ x2) (fun e=>nomatch e)).trans x2,x3⟩);have HT:=zh hT;have HB:=zh hB;have HP:=zh hP;have HL:=zh hL;clear hT hB hP g2 g3 x2 x3 H7 Hb Ha H8 H9 h1 h2 h3 h4 h5 h6 e3 e4 e5 hkt hku hnt hnu hv hx ih Hd Hc;have h6:=HL.o;obtain⟨x0,x1,x2,x3,x4⟩:=zcZ H3.o.b1;obtain⟨y0,y1,y2,y3,y4⟩:=zcZ H3.o.b2;obtain⟨l1,l2⟩:=H3.o.lt
 cases b1 with
 | false=>
  go_enter Tryz.func30, Tryz.ntmps30
  go_wp2_with fail
  go_ret;refine⟨by first | rfl | simp,?_⟩
  first | exact H3.o.b | (rw[HL.o];exact H3.o.b)
 | true=>
  obtain rfl:kt=ku:=(by simpa using e1);clear e1
  cases b2 with
  | false=>
   go_enter Tryz.func30, Tryz.ntmps30
   go_wp2_with fail
   go_ret;refine⟨by first | rfl | simp,?_⟩
   first | exact H3.o.b | (rw[HL.o];exact H3.o.b)
  | true=>
   obtain rfl:nt=nu:=(by simpa using e2);clear e2
   cases b3 with
   | false=>
    go_enter Tryz.func30, Tryz.ntmps30
    go_wp2_with (go_at_call 46;refine(HT.o _ (by first | exact H3.o.b | (rw[HL.o];exact H3.o.b))).mono ?_;rintro e w4 ⟨rfl,H0⟩;have H4:=zh (H3.o.go H0);clear H0;clear x0 x1 x2 x3 x4 y0 y1 y2 y3 y4 l1 l2;obtain⟨x0,x1,x2,x3,x4⟩:=zcZ H4.o.b1;obtain⟨y0,y1,y2,y3,y4⟩:=zcZ H4.o.b2;obtain⟨l1,l2⟩:=H4.o.lt)
    go_ret;refine⟨by first | rfl | simp,?_⟩
    first | exact H4.o.b | (rw[HL.o];exact H4.o.b)
   | true=>
    cases b4 with
    | false=>
     go_enter Tryz.func30, Tryz.ntmps30
     go_wp2_with (first | (go_at_call 46;refine(HT.o _ (by first | exact H3.o.b | (rw[HL.o];exact H3.o.b))).mono ?_;rintro e w4 ⟨rfl,H0⟩;have H4:=zh (H3.o.go H0);clear H0;clear x0 x1 x2 x3 x4 y0 y1 y2 y3 y4 l1 l2;obtain⟨x0,x1,x2,x3,x4⟩:=zcZ H4.o.b1;obtain⟨y0,y1,y2,y3,y4⟩:=zcZ H4.o.b2;obtain⟨l1,l2⟩:=H4.o.lt) | (go_at_call 71;refine(HB.o _ (by first | exact H4.o.b | (rw[HL.o];exact H4.o.b))).mono ?_;rintro e w5 ⟨rfl,H1⟩;have H5:=zh (H4.o.go H1);clear H1;clear x0 x1 x2 x3 x4 y0 y1 y2 y3 y4 l1 l2;obtain⟨x0,x1,x2,x3,x4⟩:=zcZ H5.o.b1;obtain⟨y0,y1,y2,y3,y4⟩:=zcZ H5.o.b2;obtain⟨l1,l2⟩:=H5.o.lt))
     go_ret;refine⟨by first | rfl | simp,?_⟩
     first | exact H5.o.b | (rw[HL.o];exact H5.o.b)
    | true=>
     cases b5 with
     | false=>
      go_enter Tryz.func30, Tryz.ntmps30
      go_wp2_with (first | (go_at_call 46;refine(HT.o _ (by first | exact H3.o.b | (rw[HL.o];exact H3.o.b))).mono ?_;rintro e w4 ⟨rfl,H0⟩;have H4:=zh (H3.o.go H0);clear H0;clear x0 x1 x2 x3 x4 y0 y1 y2 y3 y4 l1 l2;obtain⟨x0,x1,x2,x3,x4⟩:=zcZ H4.o.b1;obtain⟨y0,y1,y2,y3,y4⟩:=zcZ H4.o.b2;obtain⟨l1,l2⟩:=H4.o.lt) | (go_at_call 71;refine(HB.o _ (by first | exact H4.o.b | (rw[HL.o];exact H4.o.b))).mono ?_;rintro e w5 ⟨rfl,H1⟩;have H5:=zh (H4.o.go H1);clear H1;clear x0 x1 x2 x3 x4 y0 y1 y2 y3 y4 l1 l2;obtain⟨x0,x1,x2,x3,x4⟩:=zcZ H5.o.b1;obtain⟨y0,y1,y2,y3,y4⟩:=zcZ H5.o.b2;obtain⟨l1,l2⟩:=H5.o.lt) | (go_at_call 72;refine(HP.o _ (by first | exact H5.o.b | (rw[HL.o];exact H5.o.b))).mono ?_;rintro e w6 ⟨rfl,H2⟩;have H6:=zh (H5.o.go H2);clear H2;clear x0 x1 x2 x3 x4 y0 y1 y2 y3 y4 l1 l2;obtain⟨x0,x1,x2,x3,x4⟩:=zcZ H6.o.b1;obtain⟨y0,y1,y2,y3,y4⟩:=zcZ H6.o.b2;obtain⟨l1,l2⟩:=H6.o.lt))
      go_ret;refine⟨by first | rfl | simp,?_⟩
      first | exact H6.o.b | (rw[HL.o];exact H6.o.b)
     | true=>
      go_enter Tryz.func30, Tryz.ntmps30
      go_wp2_with (first | (go_at_call 46;refine(HT.o _ (by first | exact H3.o.b | (rw[HL.o];exact H3.o.b))).mono ?_;rintro e w4 ⟨rfl,H0⟩;have H4:=zh (H3.o.go H0);clear H0;clear x0 x1 x2 x3 x4 y0 y1 y2 y3 y4 l1 l2;obtain⟨x0,x1,x2,x3,x4⟩:=zcZ H4.o.b1;obtain⟨y0,y1,y2,y3,y4⟩:=zcZ H4.o.b2;obtain⟨l1,l2⟩:=H4.o.lt) | (go_at_call 71;refine(HB.o _ (by first | exact H4.o.b | (rw[HL.o];exact H4.o.b))).mono ?_;rintro e w5 ⟨rfl,H1⟩;have H5:=zh (H4.o.go H1);clear H1;clear x0 x1 x2 x3 x4 y0 y1 y2 y3 y4 l1 l2;obtain⟨x0,x1,x2,x3,x4⟩:=zcZ H5.o.b1;obtain⟨y0,y1,y2,y3,y4⟩:=zcZ H5.o.b2;obtain⟨l1,l2⟩:=H5.o.lt) | (go_at_call 72;refine(HP.o _ (by first | exact H5.o.b | (rw[HL.o];exact H5.o.b))).mono ?_;rintro e w6 ⟨rfl,H2⟩;have H6:=zh (H5.o.go H2);clear H2;clear x0 x1 x2 x3 x4 y0 y1 y2 y3 y4 l1 l2;obtain⟨x0,x1,x2,x3,x4⟩:=zcZ H6.o.b1;obtain⟨y0,y1,y2,y3,y4⟩:=zcZ H6.o.b2;obtain⟨l1,l2⟩:=H6.o.lt))
      go_ret;refine⟨by first | rfl | simp,?_⟩
      first | exact H6.o.b | (rw[HL.o];exact H6.o.b)
theorem zejZ:∀(n:Nat) (t:Sx.Ty),Sx.size t<=n->KTyOk t
 | 0,t,h=>by have:=Sx.size_pos t;omega
 | n+1,t,h=>zpzZ t (zgeZ t.parts fun p hp=>zejZ n p (by
   have:=Sx.size_mem hp;have:=Sx.size_parts t
   omega))
end Go.Proofs.YtdncljdfmdgdaaaGreatDoor
