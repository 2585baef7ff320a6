/-
  The walks of coilkeep.Expr, Exprs: of two copies of one tree.
-/
import Derived.Test.YtdncljdfmdgdaaaGreatDoorM1
import Derived.Test.YtdncljdfmdgdaaaGreatDoorM13
import Derived.Test.YtdncljdfmdgdaaaGreatDoorM16
import Derived.Test.YtdncljdfmdgdaaaGreatDoorM8
set_option linter.unusedSimpArgs false
set_option linter.unusedVariables false
set_option maxRecDepth 100000
set_option maxHeartbeats 8000000
namespace Go.Proofs.YtdncljdfmdgdaaaGreatDoor
open Go.RowKit Go.Shelf
def KXOk (x:Sx.Ex):Prop:=∀(v v':Value) (W:World),Sx.sizeX x<=1000000->IsEx W v x->IsEx W v' x->
 Calls Tryz.prog 35 #[v,v',.bool true] W fun e W'=>e=.returned (.bool true)/\Below W.heap.size W W'
def KXsOk (l:List Sx.Ex):Prop:=∀(v v':Value) (W:World),Sx.sizeXs l<=1000000->ExRow W v l->ExRow W v' l->
 Calls Tryz.prog 82 #[v,v',.bool true] W fun e W'=>e=.returned (.bool true)/\Below W.heap.size W W'
theorem zkaZ (l:List Sx.Ex) (ih:∀t∈l,KXOk t):KXsOk l:=by
 intro v x W H4 hv hx;have Ha:=Sx.length_sizeXs l;obtain⟨A1,c1,rfl,hca,hra⟩:=hv;obtain⟨A2,c2,rfl,hcb,hrb⟩:=hx;have HV:=zh (show ExRow W (.slice A1 l.length c1) l from⟨A1,c1,rfl,hca,hra⟩);have HX:=zh (show ExRow W (.slice A2 l.length c2) l from⟨A2,c2,rfl,hcb,hrb⟩);clear hca hra hcb hrb;obtain⟨k,hk⟩:=zE (l.length);rw[hk]at HV HX ⊢;have k0:(0:Int)<=(k:Int):=by omega
 have k1:(k:Int)<=1000000:=by omega
 have HK:=zh hk;have Hc:=zh H4;have H7:=zh ih;obtain⟨L,hL⟩:=zE (W.heap.size);have HL:=zh hL;clear hk Ha H4 ih hL;go_enter Tryz.func82, Tryz.ntmps82;go_wp2_with fail;go_loopg [7] k (fun i v wr=>∃(q:Nat),i=k-q/\v=.int .i64 (q:Int)/\q<=k/\Below L W wr)
 case atStart=>exact⟨0,rfl,rfl,yxZ _,yqZ _ _⟩
 case round=>
  obtain⟨q,hi,rfl,hq,hb⟩:=hrel;have HI:=zh hi;have HB:=zh hb;have q0:(0:Int)<=(q:Int):=(by omega);have hLs:L<=wr.heap.size:=(by have:=hb.size;have:=HL.o;omega);clear hi hb;by_cases hlt:q<k
  ·have H8:(q:Int)<(k:Int):=(by omega);have H1:q<l.length:=(by have:=HK.o;omega);obtain⟨g,off,At,ct,An,cn,Ap,cp,rfl,hty,hc5⟩:=HV.o.spot q H1;obtain⟨g2,off2,Bt,dt,Bn,dn,Bp,dp,rfl,hty2,hd5⟩:=HX.o.spot q H1;rw[HL.o]at hc5 hd5;obtain⟨hg,x0,x1,x2,x3,x4,x5,x6⟩:=hc5 wr HB.o;obtain⟨hg2,y0,y1,y2,y3,y4,y5,y6⟩:=hd5 wr HB.o;have H3:=Sx.sizeX_mem (yfZ H1);have H0:=yfZ H1;obtain⟨p,hp⟩:=zE (l[q]'H1);rw[hp]at x0 x1 x2 x3 x4 x5 x6 hty H3 H0 y0 y1 y2 y3 y4 y5 y6 hty2;have H2:Below W.heap.size W wr.drew:=(by rw[HL.o];exact Below.drew HB.o);have H5:=H7.o p H0 _ _ wr.drew (by have:=Hc.o;omega) (IsEx.below H2 _ _ hty) (IsEx.below H2 _ _ hty2);have Hb:=zh H5;clear hty hty2 hc5 hd5 H3 H0 hp H2 H5;go_upto_region 6 with fail
   go_region_with (go_at_call 35;refine Hb.o.mono ?_;rintro e w5 ⟨rfl,H6⟩)
   all_goals
    have H9:=zh ((Below.drew HB.o).trans (H6.mono hLs));clear H6;go_wp2_with fail;go_roundg (k-(q+1))
    case measure=>have:=HI.o;omega
    case rel=>exact⟨q+1,rfl,by simp,hlt,H9.o⟩
  ·have H8:¬(q:Int)<(k:Int):=(by omega);go_wp2_with fail;go_ret;rw[HL.o];exact⟨rfl,HB.o⟩
theorem zrjZ (t:Sx.Ex) (ih:KXsOk t.parts):KXOk t:=by
 intro v x W Ha hv hx;have H9:=Sx.sizeX_parts t;have H7:=Sx.length_sizeXs t.parts;have H8:=Sx.length_size t.t;obtain⟨At,ct,An,cn,Ap,cp,rfl,h1,h2,h3,-,-⟩:=hv.agg;obtain⟨Bt,dt,Bn,dn,Bp,dp,rfl,h4,h5,h6,-,-⟩:=hx.agg;have hT:=fun X (hX:Below W.heap.size W X)=>(zjsZ t.names t.names _ _ X (h2.below hX) (h5.below hX) (by omega) (by omega)).mono fun e w' h=>(show e=.returned (.bool true)/\Below X.heap.size X w' from⟨by rw[h.1];simp,h.2⟩);have hB:=fun X (hX:Below W.heap.size W X)=>(zgeZ t.t (fun p _=>zejZ _ p (ybZ _)) t.t _ _ X (by omega) (by omega) (h1.below hX) (h4.below hX)).mono fun e w' h=>(show e=.returned (.bool true)/\Below X.heap.size X w' from⟨by rw[h.1,(Sx.eqTs_iff t.t t.t).2 rfl],h.2⟩);have hP:=fun X (hX:Below W.heap.size W X)=>ih _ _ X (by omega) (h3.below hX) (h6.below hX);obtain⟨w2,hw2⟩:=zE (W.alloc (.cells #[.int .i64 t.pos,.int .i64 t.kind,.int .i64 t.n,.string ⟨t.s.toArray⟩,.slice At t.t.length ct,.slice An t.names.length cn,.slice Ap t.parts.length cp] 39));obtain⟨L,hL⟩:=zE (W.heap.size);obtain⟨L5,hL5⟩:=zE (w2.heap.size);obtain⟨w3,hw3⟩:=zE (w2.alloc (.cells #[.int .i64 t.pos,.int .i64 t.kind,.int .i64 t.n,.string ⟨t.s.toArray⟩,.slice Bt t.t.length dt,.slice Bn t.names.length dn,.slice Bp t.parts.length dp] 39));have g2:=yeZ W (.cells #[.int .i64 t.pos,.int .i64 t.kind,.int .i64 t.n,.string ⟨t.s.toArray⟩,.slice At t.t.length ct,.slice An t.names.length cn,.slice Ap t.parts.length cp] 39) none;have x2:=ydZ W (.cells #[.int .i64 t.pos,.int .i64 t.kind,.int .i64 t.n,.string ⟨t.s.toArray⟩,.slice At t.t.length ct,.slice An t.names.length cn,.slice Ap t.parts.length cp] 39);rw[hw2]at g2 x2;have g3:=yeZ w2 (.cells #[.int .i64 t.pos,.int .i64 t.kind,.int .i64 t.n,.string ⟨t.s.toArray⟩,.slice Bt t.t.length dt,.slice Bn t.names.length dn,.slice Bp t.parts.length dp] 39) none;have x3:=ydZ w2 (.cells #[.int .i64 t.pos,.int .i64 t.kind,.int .i64 t.n,.string ⟨t.s.toArray⟩,.slice Bt t.t.length dt,.slice Bn t.names.length dn,.slice Bp t.parts.length dp] 39);rw[hw3]at g3 x3;rw[hL]at x2;rw[hL5]at x3;have H3:=zh (show Held2 L W #[.int .i64 t.pos,.int .i64 t.kind,.int .i64 t.n,.string ⟨t.s.toArray⟩,.slice At t.t.length ct,.slice An t.names.length cn,.slice Ap t.parts.length cp] 39 L5 #[.int .i64 t.pos,.int .i64 t.kind,.int .i64 t.n,.string ⟨t.s.toArray⟩,.slice Bt t.t.length dt,.slice Bn t.names.length dn,.slice Bp t.parts.length dp] 39 w3 from⟨by rw[<-hL];exact(zeZ g2).trans ((zeZ g3).mono g2.size),(g3.block L (zaZ x2) (fun e=>nomatch e)).trans x2,x3⟩);have HT:=zh hT;have HB:=zh hB;have HP:=zh hP;have HL:=zh hL;clear hT hB hP g2 g3 x2 x3 H9 H7 H8 h1 h2 h3 h4 h5 h6 hv hx ih Ha;have h6:=HL.o;obtain⟨x0,x1,x2,x3,x4,x5,x6⟩:=zbZ H3.o.b1;obtain⟨y0,y1,y2,y3,y4,y5,y6⟩:=zbZ H3.o.b2;obtain⟨l1,l2⟩:=H3.o.lt;go_enter Tryz.func35, Tryz.ntmps35;go_wp2_with (first
  | (go_at_call 72;refine(HB.o _ (by first | exact H3.o.b | (rw[HL.o];exact H3.o.b))).mono ?_;rintro e w4 ⟨rfl,H0⟩;have H4:=zh (H3.o.go H0);clear H0;clear x0 x1 x2 x3 x4 x5 x6 y0 y1 y2 y3 y4 y5 y6 l1 l2;obtain⟨x0,x1,x2,x3,x4,x5,x6⟩:=zbZ H4.o.b1;obtain⟨y0,y1,y2,y3,y4,y5,y6⟩:=zbZ H4.o.b2;obtain⟨l1,l2⟩:=H4.o.lt)
  | (go_at_call 46;refine(HT.o _ (by first | exact H4.o.b | (rw[HL.o];exact H4.o.b))).mono ?_;rintro e w5 ⟨rfl,H2⟩;have H5:=zh (H4.o.go H2);clear H2;clear x0 x1 x2 x3 x4 x5 x6 y0 y1 y2 y3 y4 y5 y6 l1 l2;obtain⟨x0,x1,x2,x3,x4,x5,x6⟩:=zbZ H5.o.b1;obtain⟨y0,y1,y2,y3,y4,y5,y6⟩:=zbZ H5.o.b2;obtain⟨l1,l2⟩:=H5.o.lt)
  | (go_at_call 82;refine(HP.o _ (by first | exact H5.o.b | (rw[HL.o];exact H5.o.b))).mono ?_;rintro e w6 ⟨rfl,H1⟩;have H6:=zh (H5.o.go H1);clear H1))
 go_ret;refine⟨by first | rfl | simp,?_⟩
 first | exact H6.o.b | (rw[HL.o];exact H6.o.b)
theorem zhjZ:∀(n:Nat) (t:Sx.Ex),Sx.sizeX t<=n->KXOk t
 | 0,t,h=>by have:=Sx.sizeX_pos t;omega
 | n+1,t,h=>zrjZ t (zkaZ t.parts fun p hp=>zhjZ n p (by
   have:=Sx.sizeX_mem hp;have:=Sx.sizeX_parts t;omega))
def KSsOk (l:List Sx.St):Prop:=∀(v v':Value) (W:World),Sx.sizeSs l<=1000000->StRow W v l->StRow W v' l->
 Calls Tryz.prog 40 #[v,v',.bool true] W fun e W'=>e=.returned (.bool true)/\Below W.heap.size W W'
theorem zozZ (l:List Sx.St) (ih:∀s∈l,KSsOk s.body/\KSsOk s.els):KSsOk l:=by
 intro v x W H9 hv hx;have Hv:=Sx.length_sizeSs l;obtain⟨A1,c1,rfl,hca,hra⟩:=hv;obtain⟨A2,c2,rfl,hcb,hrb⟩:=hx;have HV:=zh (show StRow W (.slice A1 l.length c1) l from⟨A1,c1,rfl,hca,hra⟩);have HX:=zh (show StRow W (.slice A2 l.length c2) l from⟨A2,c2,rfl,hcb,hrb⟩);clear hca hra hcb hrb;obtain⟨k,hk⟩:=zE (l.length);rw[hk]at HV HX ⊢;have k0:(0:Int)<=(k:Int):=by omega
 have k1:(k:Int)<=1000000:=by omega
 have HK:=zh hk;have Hw:=zh H9;have Ho:=zh ih;obtain⟨L,hL⟩:=zE (W.heap.size);have HL:=zh hL;clear hk Hv H9 ih hL;go_enter Tryz.func40, Tryz.ntmps40;go_wp2_with fail;go_loopg [7] k (fun i v wr=>∃(q:Nat),i=k-q/\v=.int .i64 (q:Int)/\q<=k/\Below L W wr)
 case atStart=>exact⟨0,rfl,rfl,yxZ _,yqZ _ _⟩
 case round=>
  obtain⟨q,hi,rfl,hq,hb⟩:=hrel;have HI:=zh hi;have HB:=zh hb;have q0:(0:Int)<=(q:Int):=(by omega);have Hj:=zh (show L<=wr.heap.size by have:=hb.size;have:=HL.o;omega);clear hi hb;by_cases hlt:q<k
  ·have Hq:(q:Int)<(k:Int):=(by omega);have H2:q<l.length:=(by have:=HK.o;omega);obtain⟨g,off,At,ct,Ax,cx,Ab,cb,Ae,ce,rfl,hty,hc5⟩:=HV.o.spot q H2;obtain⟨g2,off2,Bt,dt,Bx,dx,Bb,db,Be,de,rfl,hty2,hd5⟩:=HX.o.spot q H2;rw[HL.o]at hc5 hd5;have He:=Sx.sizeS_mem (yfZ H2);have H1:=yfZ H2;obtain⟨t,hp⟩:=zE (l[q]'H2);rw[hp]at hc5 hd5 hty He H1 hty2;have Ht:=Sx.sizeS_parts t;have Hr:=Sx.length_sizeXs t.x;have Hs:=Sx.length_size t.t;have Hc:=Ho.o t H1;have H9:=Hw.o;have Ha:=HB.o;have Hb:=HL.o;have H8:=IsSt.below (show Below W.heap.size W wr by rw[Hb];exact Ha) _ _ hty;have H0:=IsSt.below (show Below W.heap.size W wr by rw[Hb];exact Ha) _ _ hty2;obtain⟨At',ct',Ax',cx',Ab',cb',Ae',ce',hagg,h1,h2,h3,h4⟩:=H8.agg;injection hagg with hagg;simp only[ykbZ,ygbZ,Value.slice.injEq,ymbZ,true_and]at hagg;obtain⟨⟨rfl,rfl⟩,⟨rfl,rfl⟩,⟨rfl,rfl⟩,⟨rfl,rfl⟩⟩:=hagg;obtain⟨Bt',dt',Bx',dx',Bb',db',Be',de',hagg,h5,h6,h7,h8⟩:=H0.agg;injection hagg with hagg;simp only[ykbZ,ygbZ,Value.slice.injEq,ymbZ,true_and]at hagg;obtain⟨⟨rfl,rfl⟩,⟨rfl,rfl⟩,⟨rfl,rfl⟩,⟨rfl,rfl⟩⟩:=hagg;have HT:=zh (fun X (hX:Below wr.heap.size wr X)=>(zgeZ t.t (fun p _=>zejZ _ p (ybZ _)) t.t _ _ X (by omega) (by omega) (h1.below hX) (h5.below hX)).mono fun e w' h=>(show e=.returned (.bool true)/\Below X.heap.size X w' from⟨by rw[h.1,(Sx.eqTs_iff t.t t.t).2 rfl],h.2⟩));have Hl:=zh (fun X (hX:Below wr.heap.size wr X)=>zkaZ t.x (fun p _=>zhjZ _ p (ybZ _)) _ _ X (by omega) (h2.below hX) (h6.below hX));have Hi:=zh (fun X (hX:Below wr.heap.size wr X)=>Hc.1 _ _ X (by omega) (h3.below hX) (h7.below hX));have Hn:=zh (fun X (hX:Below wr.heap.size wr X)=>Hc.2 _ _ X (by omega) (h4.below hX) (h8.below hX));obtain⟨K,hK⟩:=zE (wr.heap.size);obtain⟨w2,hw2⟩:=zE (wr.alloc (.cells #[.int .i64 t.pos,.int .i64 t.kind,.string ⟨t.name.toArray⟩,.slice At t.t.length ct,.slice Ax t.x.length cx,.slice Ab t.body.length cb,.slice Ae t.els.length ce] 69));obtain⟨K5,hK5⟩:=zE (w2.heap.size);obtain⟨w3,hw3⟩:=zE (w2.alloc (.cells #[.int .i64 t.pos,.int .i64 t.kind,.string ⟨t.name.toArray⟩,.slice Bt t.t.length dt,.slice Bx t.x.length dx,.slice Bb t.body.length db,.slice Be t.els.length de] 69));have g2':=yeZ wr (.cells #[.int .i64 t.pos,.int .i64 t.kind,.string ⟨t.name.toArray⟩,.slice At t.t.length ct,.slice Ax t.x.length cx,.slice Ab t.body.length cb,.slice Ae t.els.length ce] 69) none;have x2':=ydZ wr (.cells #[.int .i64 t.pos,.int .i64 t.kind,.string ⟨t.name.toArray⟩,.slice At t.t.length ct,.slice Ax t.x.length cx,.slice Ab t.body.length cb,.slice Ae t.els.length ce] 69);rw[hw2]at g2' x2';have g3':=yeZ w2 (.cells #[.int .i64 t.pos,.int .i64 t.kind,.string ⟨t.name.toArray⟩,.slice Bt t.t.length dt,.slice Bx t.x.length dx,.slice Bb t.body.length db,.slice Be t.els.length de] 69) none;have x3':=ydZ w2 (.cells #[.int .i64 t.pos,.int .i64 t.kind,.string ⟨t.name.toArray⟩,.slice Bt t.t.length dt,.slice Bx t.x.length dx,.slice Bb t.body.length db,.slice Be t.els.length de] 69);rw[hw3]at g3' x3';rw[hK]at x2' HT Hl Hi Hn;rw[hK5]at x3';have H3:=zh (show Held2 K wr #[.int .i64 t.pos,.int .i64 t.kind,.string ⟨t.name.toArray⟩,.slice At t.t.length ct,.slice Ax t.x.length cx,.slice Ab t.body.length cb,.slice Ae t.els.length ce] 69 K5 #[.int .i64 t.pos,.int .i64 t.kind,.string ⟨t.name.toArray⟩,.slice Bt t.t.length dt,.slice Bx t.x.length dx,.slice Bb t.body.length db,.slice Be t.els.length de] 69 w3 from⟨by rw[<-hK];exact(zeZ g2').trans ((zeZ g3').mono g2'.size),(g3'.block K (zaZ x2') (fun e=>nomatch e)).trans x2',x3'⟩);have Hg:=zh hw2;have Hk:=zh hw3;have Hp:=zh (show ∀X,Below K wr X->Below L W X from fun X h=>HB.o.trans (h.mono (by rw[<-hK];exact Hj.o)));obtain⟨hg,x0,x1,x2,x3,x4,x5,x6⟩:=hc5 wr HB.o;have Hu:=hd5 w2 (HB.o.trans ((zeZ g2').mono Hj.o));clear hty hty2 H8 H0 hc5 hd5 He H1 hp Ht Hr Hs Hc H9 Ha Hb h1 h2 h3 h4 h5 h6 h7 h8 g2' x2' g3' x3' hw2 hw3;go_upto_region 7 with fail
   rw[Hg.o];clear hg x0 x1 x2 x3 x4 x5 x6;obtain⟨hg,y0,y1,y2,y3,y4,y5,y6⟩:=Hu;go_upto_region 8 with fail
   rw[Hk.o];clear hg y0 y1 y2 y3 y4 y5 y6 Hg Hk;obtain⟨x0,x1,x2,x3,x4,x5,x6⟩:=zbZ H3.o.b1;obtain⟨y0,y1,y2,y3,y4,y5,y6⟩:=zbZ H3.o.b2;obtain⟨l1,l2⟩:=H3.o.lt;go_wp2_with (first
    | (go_at_call 72;refine(HT.o _ H3.o.b).mono ?_;rintro e w4 ⟨rfl,Hd⟩;have H4:=zh (H3.o.go Hd);clear Hd x0 x1 x2 x3 x4 x5 x6 y0 y1 y2 y3 y4 y5 y6 l1 l2;obtain⟨x0,x1,x2,x3,x4,x5,x6⟩:=zbZ H4.o.b1;obtain⟨y0,y1,y2,y3,y4,y5,y6⟩:=zbZ H4.o.b2;obtain⟨l1,l2⟩:=H4.o.lt)
    | (go_at_call 82;refine(Hl.o _ H4.o.b).mono ?_;rintro e w5 ⟨rfl,Hf⟩;have H5:=zh (H4.o.go Hf);clear Hf x0 x1 x2 x3 x4 x5 x6 y0 y1 y2 y3 y4 y5 y6 l1 l2;obtain⟨x0,x1,x2,x3,x4,x5,x6⟩:=zbZ H5.o.b1;obtain⟨y0,y1,y2,y3,y4,y5,y6⟩:=zbZ H5.o.b2;obtain⟨l1,l2⟩:=H5.o.lt)
    | (go_at_call 40;refine(Hi.o _ H5.o.b).mono ?_;rintro e w6 ⟨rfl,Hh⟩;have H6:=zh (H5.o.go Hh);have H5:=True.intro;clear Hh x0 x1 x2 x3 x4 x5 x6 y0 y1 y2 y3 y4 y5 y6 l1 l2;obtain⟨x0,x1,x2,x3,x4,x5,x6⟩:=zbZ H6.o.b1;obtain⟨y0,y1,y2,y3,y4,y5,y6⟩:=zbZ H6.o.b2;obtain⟨l1,l2⟩:=H6.o.lt)
    | (go_at_call 40;refine(Hn.o _ H6.o.b).mono ?_;rintro e w7 ⟨rfl,Hm⟩;have H7:=zh (H6.o.go Hm);clear Hm))
   go_roundg (k-(q+1))
   case measure=>have:=HI.o;omega
   case rel=>exact⟨q+1,rfl,by simp,hlt,Hp.o _ H7.o.b⟩
  ·have Hq:¬(q:Int)<(k:Int):=(by omega);go_wp2_with fail;go_ret;rw[HL.o];exact⟨rfl,HB.o⟩
theorem zeaZ:∀(n:Nat) (l:List Sx.St),Sx.sizeSs l<n->KSsOk l
 | 0,l,h=>by omega
 | n+1,l,h=>zozZ l fun s hs=>by have:=Sx.sizeS_mem hs;have:=Sx.sizeS_parts s;exact⟨zeaZ n s.body (by omega),zeaZ n s.els (by omega)⟩
theorem zkrZ {P:Program} {w:World} {o:Oper} {ρ:Operand->Value} {K:Value->World->Prop} (s x:Operand) (t:TypeId)
  (ho:o.op=.call { callee:=.builtin .append,args:=#[s,x],argTypes:=#[t,t] })
  (base:Nat) (e:TypeId) (i:TypeInfo) (z:Value) (size bytes:Nat) (ht:P.underlying t=some (.slice e)) (hi:P.info? e=some i) (hz:i.zero=some z)
  (hsize:i.size=size) (hby:i.bytes=bytes) (hzs:z.cells.size=size) (hsz:0<size)
  (v:Value) (n:Nat) (xs:List Value) (hs:ρ s=v) (hown:w.ownsRow base e size v n xs)
  (ad:Addr) (m c:Nat) (news:List Value) (hx:ρ x=.slice (some ad) m c) (hl:news.length=m * size) (hnews:∀j u,news[j]? =some u->w.cell? (ad.add j)=some u) (h1:∀u∈news,u.oneCell'=true)
  (h63:n+m<=maxLen) (hbytes:(n+m) * bytes<=140737488355328) (hbase:base<=w.heap.size)
  (h:∀v' w',w'.ownsRow base e size v' (n+m) (xs++news)->w.grownBy w' v.ownBlock->(v'.ownBlock=v.ownBlock\/v'.ownBlock=some w.heap.size)->K v' w'):opWp P o ρ w K:=by
 obtain⟨v',w',hr,h2,h3,h4,h5⟩:=run_append_own_at (P:=P) w base t o.type e i z size bytes ht hi hz hsize hby hzs hsz v n xs hown ad m c news hl hnews h1 h63 hbytes hbase;unfold opWp execOp;simp only[ho,resolve,invoke,builtin,Sem.run_bind,Sem.run_pure,Result.andThen_ok,yIZ,yPZ,yRZ,hs,hx,hr];exact h v' w' h2 h3 h5
theorem zwhZ {α:Type} {R:World->List Value->α->Prop} (hR:∀W W' cs t,Sub W W'->R W cs t->R W' cs t) {P:Program} {w:World} {o:Oper} {ρ:Operand->Value} {K:Value->World->Prop} (s x:Operand) (t:TypeId)
  (ho:o.op=.call { callee:=.builtin .append,args:=#[s,x],argTypes:=#[t,t] })
  {e size L:Nat} {X:Option Nat} {v:Value} {n:Nat} {l:List α} (hown:Own R e size L X w v l) (hln:l.length=n) {z:Value} {bytes:Nat} (ht:P.underlying t=some (.slice e)) (hi:(P.info? e).map (fun i=>(i.zero,i.size,i.bytes))=some (some z,size,bytes)) (hzs:z.cells.size=size) (hsz:0<size)
  (hs:ρ s=v) {k c:Nat} {cs:List Value} {cf:Array Value} (hcf:cf.toList=cs) {u:α} {B:Nat} (hx:ρ x=.slice (some ⟨k,0,none⟩) 1 c) (hk:w.heap[k]? =some (.cells cf e (0,0))) (hcs:cs.length=size) (h1:∀u∈cs,u.oneCell'=true)
  (hr:R (only w (since B)) cs u) (hLB:L<=B) (hBw:B<=w.heap.size) (hXB:∀b,X=some b->b<B) (hgB:∀b,v.ownBlock=some b->b<B)
  (hn:n+1<=1000000) (hby:bytes<=1000)
  (h:∀A c w',Own R e size L X w' (.slice A (n+1) c) (l++[u])->w.grownBy w' v.ownBlock->K (.slice A (n+1) c) w'):opWp P o ρ w K:=by
 subst hln;obtain⟨xss,hrow,hl,hxx,hel⟩:=hown;obtain⟨i,hi1,hi2⟩:=yibZ.1 hi;simp only[Prod.mk.injEq]at hi2;obtain⟨i1,i2,i3⟩:=hi2;refine zkrZ s x t ho L e i z size bytes ht hi1 i1 i2 i3 hzs hsz v l.length xss.flatten hs hrow ⟨k,0,none⟩ 1 c cs hx (by rw[hcs,Nat.one_mul]) ?_ h1 (by unfold maxLen;omega) ?_ (by omega) ?_
 ·intro j q hj;rw[zclZ,yGZ,zdZ hk,<-Array.getElem?_toList,hcf];exact hj
 ·have:=Nat.mul_le_mul hn hby;omega
 ·intro v' w' hown' hg H2;have H0:∀b,v'.ownBlock=some b->v.ownBlock=some b\/b=w.heap.size:=by
   intro b hb;rcases H2 with h | h
   ·exact .inl (h.symm.trans hb)
   ·right;rw[h]at hb;injection hb with hb;exact hb.symm
  have H1:∃A c,v'=.slice A (l.length+1) c:=by
   rcases hown'.2 with⟨rfl,h0⟩ | ⟨g,cap,cur,rfl,-⟩
   ·omega
   ·exact⟨_,cap,rfl⟩
  obtain⟨A',c',rfl⟩:=H1;refine h A' c' w' ⟨xss++[cs],by simpa using hown',by simp[hl],?_,fun j hj=>?_⟩ hg
  ·intro he;by_cases hne:X=none
   ·exact hne
   ·obtain⟨b,hb⟩:=Option.ne_none_iff_exists'.1 hne;rw[hb]at he;rcases H0 b he with h | h
    ·exact hxx (h.trans hb.symm)
    ·have:=hXB b hb;omega
  ·by_cases hjl:j<l.length
   ·obtain⟨cs',e1,e2,e3⟩:=hel j hjl;refine⟨cs',by rw[List.getElem?_append_left (by omega)];exact e1,e2,?_⟩;rw[List.getElem_append_left hjl];refine hR _ _ _ _ (znZ fun g hgw hs=>?_) e3;obtain⟨p1,p2,p3⟩:=zxZ.1 hs;refine⟨zxZ.2 ⟨p1,p2,fun e=>?_⟩,hg.block g hgw p3⟩;rcases H0 g e.symm with h | h
    ·exact p3 h.symm
    ·omega
   ·obtain rfl:j=l.length:=(by simp at hj;omega);refine⟨cs,by rw[List.getElem?_append_right (by omega),hl,Nat.sub_self];rfl,hcs,?_⟩;rw[List.getElem_append_right (ybZ _)];simp only[Nat.sub_self,List.getElem_cons_zero];refine hR _ _ _ _ (znZ fun g hgw hs=>?_) hr;have hB:=zmZ.1 hs;refine⟨zxZ.2 ⟨by omega,fun e=>?_,fun e=>?_⟩,hg.block g hgw fun e=>?_⟩
    ·have:=hXB g e.symm;omega
    ·rcases H0 g e.symm with h | h
     ·have:=hgB g h;omega
     ·omega
    ·have:=hgB g e.symm;omega
section
variable {α:Type} (R:World->List Value->α->Prop) (e size M:Nat) (X:Option Nat) (wr:World) (v0:Value) (l:List α) (p:α) (bx j:Nat)
def PushI:Nat->World->Value->Prop
 | 0,w,_=>Below wr.heap.size wr w
 | 1,w,r=>∃A c W9,r=.slice A (l.length+1) c/\Below wr.heap.size wr W9/\Own R e size M X w r (l++[p])/\W9.grownBy w v0.ownBlock
 | _,w,r=>∃A c W9 w9,r=.slice A (l.length+1) c/\Below wr.heap.size wr W9/\Own R e size M X w9 r (l++[p])/\W9.grownBy w9 v0.ownBlock/\w=w9.setCell ⟨bx,j,none⟩ r
def PushM:World->Value->Nat->World->Value->Nat->Prop:=fun w r k w' r' k'=>k<=k'/\(k'=k->r'=r)/\(k'=0->Below w.heap.size w w')
def Early (P:Value->World->Prop):Value->World->Value->Nat->Prop:=fun x w _ k=>k=0->P x w
def TreeF (IsX:World->Value->α->Prop) (N:Nat) (p:α):Value->World->Value->Nat->Prop:=Early fun x w=>IsX (only w (since N)) x p
def BoxF (N:Nat) (p:α):Value->World->Value->Nat->Prop:=Early fun x w=>∃kb cf c,x=.slice (some ⟨kb,0,none⟩) 1 c/\w.heap[kb]? =some (.cells cf e (0,0))/\cf.toList.length=size/\(∀u∈cf.toList,u.oneCell'=true)/\R (only w (since N)) cf.toList p
end
theorem Early.stays {P:Value->World->Prop} (h:∀x w w',Below w.heap.size w w'->P x w->P x w'):Stays PushM (Early P):=fun x w r k w' r' k' hm hh hk=>h x w w' (hm.2.2 hk) (hh (by have:=hm.1;omega))
theorem TreeF.stays {α:Type} {IsX:World->Value->α->Prop} {N:Nat} {p:α} (hs:∀W W' x,Sub W W'->IsX W x p->IsX W' x p):Stays PushM (TreeF IsX N p):=Early.stays fun x w w' hb h=>hs _ _ _ (Sub.since_below hb) h
theorem BoxF.stays {α:Type} {R:World->List Value->α->Prop} {e size N:Nat} {p:α} (hR:∀W W' cs t,Sub W W'->R W cs t->R W' cs t):Stays PushM (BoxF R e size N p):=Early.stays fun x w w' hb h=>by
 obtain⟨kb,cf,c,h1,h2,h3,h4,h5⟩:=h;exact⟨kb,cf,c,h1,(hb.block kb (zaZ h2)).trans h2,h3,h4,hR _ _ _ _ (Sub.since_below hb) h5⟩
theorem AppF.staysP {j:Nat} : Stays PushM (AppF j):=fun x w r k w' r' k' hm h=>by
 obtain⟨h2,h3,-⟩:=hm;refine⟨by have:=h.1;omega,fun e=>?_⟩;have hk:k'=k:=by have:=h.1;omega
 rw[h3 hk];exact h.2 (by omega)
theorem PushM.refl {w:World} {r:Value} {k:Nat} : PushM w r k w r k:=⟨ybZ _,fun _=>rfl,fun _=>yqZ _ _⟩
theorem PushM.below {w w':World} {r:Value} {k:Nat} (h:Below w.heap.size w w'):PushM w r k w' r k:=⟨ybZ _,fun _=>rfl,fun _=>h⟩
section
variable {α:Type} {R:World->List Value->α->Prop} {e size M:Nat} {X:Option Nat} {wr:World} {v0:Value} {l:List α} {p:α} {bx j:Nat}
theorem PushI.early {w w':World} {r:Value} (h:PushI R e size M X wr v0 l p bx j 0 w r) (hb:Below w.heap.size w w'):PushI R e size M X wr v0 l p bx j 0 w' r:=Below.trans h (hb.mono h.size)
theorem PushI.block {k:Nat} {w:World} {r:Value} (h:PushI R e size M X wr v0 l p bx j k w r) {g:Nat} (hg:g<wr.heap.size) (h1:v0.ownBlock≠some g) (h2:k<2):w.heap[g]? =wr.heap[g]? /\wr.heap.size<=w.heap.size:=by
 match k,h,h2 with
 | 0,h,_=>have hb:Below wr.heap.size wr w:=h;exact⟨hb.block g hg,hb.size⟩
 | 1,h,_=>obtain⟨A,c,W9,-,hb,-,hgr⟩:=h;exact⟨(hgr.block g (yJZ hg hb.size) (fun e=>h1 e.symm)).trans (hb.block g hg),ymZ hb.size hgr.size⟩
theorem OpOk.push {P:Program} {ops:Array Oper} {Q:Exit->Act->World->Prop} {a:Act} {i i2:Nat} {o:Oper} {Fs:List (Value->World->Value->Nat->Prop)} (hR:∀W W' cs t,Sub W W'->R W cs t->R W' cs t) (s x:Operand) (t:TypeId)
  (hg:o.guard=none) (ho:o.op=.call { callee:=.builtin .append,args:=#[s,x],argTypes:=#[t,t] }) (hF:nth Fs i=AppF 0)
  (hown:Own R e size M X wr v0 l) {z:Value} {bytes:Nat} (ht:P.underlying t=some (.slice e)) (hi:(P.info? e).map (fun i=>(i.zero,i.size,i.bytes))=some (some z,size,bytes)) (hzs:z.cells.size=size) (hsz:0<size)
  (hM:M<=wr.heap.size) (hXB:∀b,X=some b->b<wr.heap.size) (hn:l.length+1<=1000000) (hby:bytes<=1000)
  (h:∀(ρ:Operand->Value) (u:Nat->Value) (L:Nat->Prop) (w:World) (r:Value) (k:Nat),
   (∀d j,slotAt ops.toList j=some d->ρ (.tmp d)=u j)->(∀d,(slots ops.toList).contains d=false->ρ (.tmp d)=a.eval (.tmp d))->
   (∀j,edge ops.toList i j=true->L j)->(∀j j',edge ops.toList j j'=true->L j->L j')->
   (∀j,L j->nth Fs j (u j) w r k)->k=0->ρ s=v0/\∃y,ρ x=y/\BoxF R e size wr.heap.size p y w r k):OpOk P Q ops a [i,i2] (PushI R e size M X wr v0 l p bx j) PushM (nth Fs) i o:=by
 intro ρ u L w r k h1 h2 h3 h4 h5 h6 h7 h8 h9 H2 H1 H0 K hK;obtain rfl:k=0:=by have:=H1 i 0 rfl;have H3:¬0<k:=fun hlt=>h8 (this.2 hlt);omega
 obtain⟨hs,y,hy,hbox⟩:=h ρ u L w r 0 h1 h2 h6 h7 h9 rfl;obtain⟨kb,cf,c,rfl,hkb,hcl,hone,hr⟩:=hbox rfl;rw[zceZ (by simp)]at hK;unfold guarded;rw[hg];have hb:Below wr.heap.size wr w:=H0;refine zwhZ hR s x t ho (hown.go hR hb) rfl ht hi hzs hsz hs rfl hy hkb hcl hone hr hM hb.size hXB (fun b hb'=>(hown.lt b hb').2) hn hby fun A' c' w' hown' hgr=>?_;refine hK.o _ w' (.slice A' (l.length+1) c') ⟨by omega,fun e=>by omega,fun e=>by omega⟩ ⟨A',c',w,rfl,hb,hown',hgr⟩ ?_;rw[hF];exact⟨ybZ _,fun _=>rfl⟩
theorem OpOk.pushStore {P:Program} {ops:Array Oper} {Q:Exit->Act->World->Prop} {a:Act} {i i2:Nat} {o:Oper} {Fs:List (Value->World->Value->Nat->Prop)} (hne:i≠i2) (hg:o.guard=none) (he:edge ops.toList i2 i=true) (hF1:nth Fs i=AppF 0) (hF:nth Fs i2=Early fun _ _=>True)
  (h:∀(ρ:Operand->Value) (u:Nat->Value) (L:Nat->Prop) (w:World) (r:Value),
   (∀d j,slotAt ops.toList j=some d->ρ (.tmp d)=u j)->(∀d,(slots ops.toList).contains d=false->ρ (.tmp d)=a.eval (.tmp d))->
   (∀j,edge ops.toList i2 j=true->L j)->(∀j,L j->nth Fs j (u j) w r 1)->u i=r->PushI R e size M X wr v0 l p bx j 1 w r->(∃A c,r=.slice A (l.length+1) c)->
   ∀K:Value->World->Prop,Hid (∀x,K x (w.setCell ⟨bx,j,none⟩ r))->opWp P o ρ w K):OpOk P Q ops a [i,i2] (PushI R e size M X wr v0 l p bx j) PushM (nth Fs) i2 o:=by
 intro ρ u L w r k h1 h2 h3 h4 h5 h6 h7 h8 h9 H4 H0 H1 K hK;have H3:=H0 i 0 rfl;have H2:=H0 i2 1 rfl;have hLi:=h6 i he;obtain rfl:k=1:=by have a1:=H3.1 hLi;have a2:¬1<k:=fun hlt=>h8 (H2.2 hlt);omega
 have ha:=h9 i hLi;rw[hF1]at ha;obtain⟨A,c,W9,hr,hb,hown,hgr⟩:=id H1;rw[zceZ (by simp)]at hK;unfold guarded;rw[hg];refine h ρ u L w r h1 h2 h6 h9 (ha.2 rfl).symm H1 ⟨A,c,hr⟩ K (zh fun x=>?_);refine hK.o x _ r ⟨by omega,fun e=>by omega,fun e=>by omega⟩ ⟨A,c,W9,w,hr,hb,hown,hgr,rfl⟩ ?_;rw[hF];exact fun _=>trivial
end
end Go.Proofs.YtdncljdfmdgdaaaGreatDoor
namespace Go.Proofs.YtdncljdfmdgdaaaGreatDoor
open Go.RowKit Go.Shelf
attribute [local go_sem] opWp zoZ zvZ zpZ
theorem PushM.rf (w:World) (r:Value) (k:Nat):PushM w r k w r k:=PushM.refl
theorem zcsZ {w:World} {g t:Nat} {cs:Array Value} (h:w.heap[g]? =some (.cells cs t (0,0))):w.frozen? ⟨g,0,none⟩=false/\w.frozen? ⟨g,1,none⟩=false/\w.frozen? ⟨g,2,none⟩=false/\w.frozen? ⟨g,3,none⟩=false/\w.frozen? ⟨g,4,none⟩=false/\w.frozen? ⟨g,5,none⟩=false/\w.frozen? ⟨g,6,none⟩=false:=
 ⟨zsZ h 0,zsZ h 1,zsZ h 2,zsZ h 3,zsZ h 4,zsZ h 5,zsZ h 6⟩
theorem zehZ (l:List (Value->World->Value->Nat->Prop)) (hs:AllStay PushM l):∃F,Nths F 0 l/\AllStay PushM F:=⟨l,zcgZ rfl,hs⟩
section
variable {α:Type} {R:World->List Value->α->Prop} {e size M:Nat} {X:Option Nat} {wr:World} {v0:Value} {l:List α} {p:α} {bx j:Nat}
theorem PushI.low {B k:Nat} {W w:World} {r:Value} (h:PushI R e size M X wr v0 l p bx j k w r) (hB:B<=wr.heap.size) (hx:B<=bx) (hv:∀b,v0.ownBlock=some b->B<=b) (hW:Below B W wr):Below B W w:=by
 have grow:∀ {W9 w9:World},Below wr.heap.size wr W9->W9.grownBy w9 v0.ownBlock->Below B W w9:=fun {W9 w9} hb hg=>by have h9:=hW.trans (hb.mono hB);exact⟨hg.os.trans h9.os,hg.tape.trans h9.tape,hg.output.trans h9.output,ymZ h9.size hg.size,fun q hq=>(hg.block q (by have:=hb.size;omega) fun e=>by have:=hv q e.symm;omega).trans (h9.block q hq)⟩
 match k,h with
 | 0,h=>exact hW.trans (Below.mono h hB)
 | 1,h=>obtain⟨A,c,W9,-,hb,-,hgr⟩:=h;exact grow hb hgr
 | k+2,h=>obtain⟨A,c,W9,w9,-,hb,-,hgr,rfl⟩:=h;exact(grow hb hgr).setCell hx _
theorem PushI.lt {k:Nat} {w:World} {r:Value} (h:PushI R e size M X wr v0 l p bx j k w r) (hx:bx<wr.heap.size):bx<w.heap.size:=by
 match k,h with
 | 0,h=>exact yJZ hx (show Below _ _ _ from h).size
 | 1,h=>obtain⟨A,c,W9,-,hb,-,hgr⟩:=h;exact yJZ hx (ymZ hb.size hgr.size)
 | k+2,h=>obtain⟨A,c,W9,w9,-,hb,-,hgr,rfl⟩:=h;simp[World.setCell];exact yJZ hx (ymZ hb.size hgr.size)
variable {P:Program} {ops:Array Oper} {Q:Exit->Act->World->Prop} {a:Act} {i ip i2 d q T:Nat} {o:Oper} {Fs:List (Value->World->Value->Nat->Prop)} {u v:Value} {cs:Array Value} {IsX:World->Value->α->Prop}
def ahead (ops:List Oper) (ip i:Nat) (l:List Nat):Bool:=pathOk ops (ip::l)&&((ip::l).getLast? ==some i)
theorem OpOk.val0 (ps:List Nat) (hp:ahead ops.toList ip i ps=true) (hi:[ip,i2].contains i=false) (hg:o.guard=none) (hF:nth Fs i=IsF v)
  (h:∀(ρ:Operand->Value) (w:World) (r:Value),Ev ops.toList a Fs i ρ w r 0->Below wr.heap.size wr w->∀K:Value->World->Prop,K v w->opWp P o ρ w K):OpOk P Q ops a [ip,i2] (PushI R e size M X wr v0 l p bx j) PushM (nth Fs) i o:=
 OpOk.plain hi hg fun ρ u L w r k h1 h2 h3 h4 h5 h6 h7 h8 h9 h10 h11 h12 K hK=>by
  obtain rfl:k=0:=by
   cases k with
   | zero=>rfl
   | succ k=>unfold ahead at hp;simp only[ygZ,ytZ]at hp;exact absurd (zetZ h7 ps ip i hp.1 hp.2 ((h11 ip 0 rfl).2 (yVZ k))) h8
  exact h ρ w r (Ev.mk' h1 h2 h3 h4 h5 h6 h7 h8 h9 h10) h12 K (hK.o v w r PushM.refl h12 (zboZ hF rfl))
theorem OpOk.pf (fl:Fl P T) (hx:bx<wr.heap.size) {j2:Nat} (hF:nth Fs i=IsF (.pointer (some ⟨bx,j2,none⟩))) (hd:Rd ops.toList a Fs i true d (.pointer (some ⟨bx,0,none⟩))) (ho:o.op=.fieldAddr T (.tmp d) j2:=by rfl) (hj:decide (j2<=6)=true:=by rfl) (hi:[ip,i2].contains i=false:=by rfl) (hg:o.guard=none:=by rfl) :
  OpOk P Q ops a [ip,i2] (PushI R e size M X wr v0 l p bx j) PushM (nth Fs) i o:=
 OpOk.val hi hg hF PushM.rf fun ρ w r k E hI K hK=>fl ho (yBZ hj) (hd ρ w r k E rfl) (hI.lt hx) hK
theorem OpOk.pl {ts:List TypeId} (ld:Ld P ts) {j2:Nat} {T2:TypeId} (ps:List Nat) (hb:wr.heap[bx]? =some (.cells cs T (0,0))) (hF:nth Fs i=IsF v) (hd:Rd ops.toList a Fs i true d (.pointer (some ⟨bx,j2,none⟩))) (hp:ahead ops.toList ip i ps=true:=by kernel_rfl)
  (ho:o.op=.load T2 (.tmp d):=by rfl) (hT:ts.contains T2=true:=by rfl) (hc:cs[j2]? =some v:=by rfl) (hi:[ip,i2].contains i=false:=by rfl) (hg:o.guard=none:=by rfl) :
  OpOk P Q ops a [ip,i2] (PushI R e size M X wr v0 l p bx j) PushM (nth Fs) i o:=
 OpOk.val0 ps hp hi hg hF fun ρ w r E h0 K hK=>ld ho hT (hd ρ w r 0 E rfl) ((zdZ ((h0.block bx (zaZ hb)).trans hb) j2).trans hc) hK
theorem OpOk.pc {fn:Func} {c:Code} {f:FuncId} {ats:Array TypeId} (ps:List Nat) (hF:nth Fs i=TreeF IsX wr.heap.size p) (isub:∀W W2 x,Sub W W2->IsX W x p->IsX W2 x p) (hf:P.funcs[f]? =some fn) (hd:Rd ops.toList a Fs i true d u)
  (h:∀w,Below wr.heap.size wr w->Calls P f #[u] w fun e w'=>∃v,e=.returned v/\IsX (only w' (since w.heap.size)) v p/\Below w.heap.size w w') (hp:ahead ops.toList ip i ps=true:=by kernel_rfl)
  (ho:o.op=.call { callee:=.value (.func f),args:=#[.tmp d],argTypes:=ats } :=by rfl) (hname:(fn.name== "runtime.NumGoroutine")=false:=by kernel_rfl) (hb:fn.body=some c:=by rfl) (hi:[ip,i2].contains i=false:=by rfl) (hg:o.guard=none:=by rfl) :
  OpOk P Q ops a [ip,i2] (PushI R e size M X wr v0 l p bx j) PushM (nth Fs) i o:=
 OpOk.plain hi hg fun ρ u L w r k h1 h2 h3 h4 h5 h6 h7 h8 h9 h10 h11 h12 K hK=>by
  obtain rfl:k=0:=by
   cases k with
   | zero=>rfl
   | succ k=>unfold ahead at hp;simp only[ygZ,ytZ]at hp;exact absurd (zetZ h7 ps ip i hp.1 hp.2 ((h11 ip 0 rfl).2 (yVZ k))) h8
  have H0:Below wr.heap.size wr w:=h12;refine zcpZ ho hf hname hb (h5 f) (by rw[yIZ,yPZ,yRZ,hd ρ w r 0 (Ev.mk' h1 h2 h3 h4 h5 h6 h7 h8 h9 h10) rfl]) ((h w H0).mono fun x w' ⟨v,he,ht,hb5⟩=>⟨v,he,hK.o v w' r (PushM.below hb5) (PushI.early h12 hb5) (zboZ hF fun _=>isub _ _ _ (Sub.since_mono H0.size) ht)⟩)
theorem OpOk.pb (ps:List Nat) (hR:∀W W' cs t,Sub W W'->R W cs t->R W' cs t) (hF:nth Fs i=BoxF R e size wr.heap.size p) (hq:nth Fs q=TreeF IsX wr.heap.size p) (d:Nat)
  (hrd:∀W v,IsX W v p->∃cs:Array Value,v=.agg cs/\cs.toList.length=size/\(∀u∈cs.toList,u.oneCell'=true)/\R W cs.toList p)
  (h:∀(ρ:Operand->Value) (w:World) (K:Value->World->Prop) (cs:Array Value),ρ (.tmp d)=.agg cs->cs.size=size->K (.slice (some ⟨w.heap.size,0,none⟩) 1 1) (w.alloc (.cells cs e))->opWp P o ρ w K)
  (hp:ahead ops.toList ip i ps=true:=by kernel_rfl) (hr:reads ops.toList i d q=true:=by kernel_rfl) (hi:[ip,i2].contains i=false:=by rfl) (hg:o.guard=none:=by rfl) :
  OpOk P Q ops a [ip,i2] (PushI R e size M X wr v0 l p bx j) PushM (nth Fs) i o:=
 OpOk.plain hi hg fun ρ u L w r k h1 h2 h3 h4 h5 h6 h7 h8 h9 h10 h11 h12 K hK=>by
  obtain rfl:k=0:=by
   cases k with
   | zero=>rfl
   | succ k=>unfold ahead at hp;simp only[ygZ,ytZ]at hp;exact absurd (zetZ h7 ps ip i hp.1 hp.2 ((h11 ip 0 rfl).2 (yVZ k))) h8
  have E:=Ev.mk' (Fs:=Fs) h1 h2 h3 h4 h5 h6 h7 h8 h9 h10;obtain⟨cs,e1,e2,e3,e4⟩:=hrd _ _ (E.x d q hr hq rfl);refine h ρ w K cs e1 (by rw[<-Array.length_toList];exact e2) (hK.o _ _ r (PushM.below ((yqZ _ _).alloc (ybZ _) _)) (PushI.early h12 ((yqZ _ _).alloc (ybZ _) _)) (zboZ hF fun _=>⟨_,_,_,rfl,ydZ w _,e2,e3,hR _ _ _ _ (Sub.since_below ((yqZ _ _).alloc (ybZ _) _)) e4⟩))
theorem OpOk.pp (hR:∀W W' cs t,Sub W W'->R W cs t->R W' cs t) (s x:Nat) {q0 q1:Nat} {t:TypeId} (hF:nth Fs i=AppF 0) (hq0:nth Fs q0=IsF v0) (hq:nth Fs q1=BoxF R e size wr.heap.size p) (hown:Own R e size M none wr v0 l) {z:Value} {bytes:Nat} (ht:P.underlying t=some (.slice e)) (hi:(P.info? e).map (fun i=>(i.zero,i.size,i.bytes))=some (some z,size,bytes)) (hM:M<=wr.heap.size) (hn:l.length+1<=1000000)
  (hr0:reads ops.toList i s q0=true:=by kernel_rfl) (hr:reads ops.toList i x q1=true:=by kernel_rfl) (ho:o.op=.call { callee:=.builtin .append,args:=#[.tmp s,.tmp x],argTypes:=#[t,t] } :=by rfl) (hby:bytes<=1000:=by omega) (hzs:z.cells.size=size:=by rfl) (hsz:0<size:=by decide) (hg:o.guard=none:=by rfl) :
  OpOk P Q ops a [i,i2] (PushI R e size M none wr v0 l p bx j) PushM (nth Fs) i o:=by
 unfold reads at hr hr0;simp only[ygZ,ytZ]at hr hr0;exact OpOk.push hR (.tmp s) (.tmp x) t hg ho hF hown ht hi hzs hsz hM (fun b e=>nomatch e) hn hby fun ρ u L w r k hs hs0 hL hC hf hk=>
  ⟨(hs s q0 hr0.1).trans (zbqZ hq0 (hf q0 (hL q0 hr0.2))),_,hs x q1 hr.1,zbqZ hq (hf q1 (hL q1 hr.2))⟩
theorem OpOk.ps {T2:TypeId} (st:∀ {o:Oper} {ρ:Operand->Value} {w:World} {K:Value->World->Prop} {x y:Operand} {g j n c:Nat} {A:Option Addr} {cs:Array Value} {z:Value},o.op=.store T2 x y->ρ x=.pointer (some ⟨g,j,none⟩)->ρ y=.slice A n c->w.heap[g]? =some (.cells cs T (0,0))->cs[j]? =some z->(∀v,K v (w.setCell ⟨g,j,none⟩ (.slice A n c)))->opWp P o ρ w K)
  (hx:bx<wr.heap.size) (hv:v0.ownBlock≠some bx) (hb:wr.heap[bx]? =some (.cells cs T (0,0))) {z:Value} (hc:cs[j]? =some z) (hF1:nth Fs i=AppF 0) (hF:nth Fs i2=Early fun _ _=>True) (hq:nth Fs q=IsF (.pointer (some ⟨bx,j,none⟩)))
  (d1 d2:Nat) (hr:reads ops.toList i2 d1 q=true:=by kernel_rfl) (hr2:reads ops.toList i2 d2 i=true:=by kernel_rfl) (ho:o.op=.store T2 (.tmp d1) (.tmp d2):=by rfl) (hne:i≠i2:=by decide) (hg:o.guard=none:=by rfl):OpOk P Q ops a [i,i2] (PushI R e size M X wr v0 l p bx j) PushM (nth Fs) i2 o:=by
 unfold reads at hr hr2;simp only[ygZ,ytZ]at hr hr2;refine OpOk.pushStore hne hg hr2.2 hF1 hF fun ρ u L w r hs hs0 hL hf hu hI hA K hK=>?_;obtain⟨A,c,rfl⟩:=hA;exact st ho ((hs d1 q hr.1).trans (zbqZ hq (hf q (hL q hr.2)))) ((hs d2 i hr2.1).trans hu) ((PushI.block hI hx hv (by decide)).1.trans hb) hc fun v=>hK.o v
end
/-! ### for this program's types -/
theorem stTX {o:Oper} {ρ:Operand->Value} {w:World} {K:Value->World->Prop} {x y:Operand} {g j n c T:Nat} {A:Option Addr} {cs:Array Value} {z:Value} (ho:o.op=.store 24 x y\/o.op=.store 37 x y) (hx:ρ x=.pointer (some ⟨g,j,none⟩)) (hy:ρ y=.slice A n c) (hw:w.heap[g]? =some (.cells cs T (0,0))) (hc:cs[j]? =some z)
  (h:∀v,K v (w.setCell ⟨g,j,none⟩ (.slice A n c))):opWp Tryz.prog o ρ w K:=by
 have H0:=(zdZ hw j).trans hc;have H2:=zsZ hw j;have H1:=zaZ hw
 cases o with
 | mk dst op type pos after guard=>rcases ho with ho | ho <;> subst ho <;> go_simp <;> exact h _
theorem bsT {o:Oper} {ρ:Operand->Value} {w:World} {K:Value->World->Prop} {d:Nat} {cs:Array Value} (ho:o.op=.buildSlice 24 1 #[(0,.tmp d)]) (hd:ρ (.tmp d)=.agg cs) (hc:cs.size=5) (h:K (.slice (some ⟨w.heap.size,0,none⟩) 1 1) (w.alloc (.cells cs 26))):opWp Tryz.prog o ρ w K:=by
 obtain⟨l⟩:=cs
 match l,hc with
 | [z0,z1,z2,z3,z4],_=>
  cases o with
  | mk dst op type pos after guard=>subst ho;go_simp;exact h
theorem bsE {o:Oper} {ρ:Operand->Value} {w:World} {K:Value->World->Prop} {d:Nat} {cs:Array Value} (ho:o.op=.buildSlice 37 1 #[(0,.tmp d)]) (hd:ρ (.tmp d)=.agg cs) (hc:cs.size=7) (h:K (.slice (some ⟨w.heap.size,0,none⟩) 1 1) (w.alloc (.cells cs 39))):opWp Tryz.prog o ρ w K:=by
 obtain⟨l⟩:=cs
 match l,hc with
 | [z0,z1,z2,z3,z4,z5,z6],_=>
  cases o with
  | mk dst op type pos after guard=>subst ho;go_simp;exact h
theorem rdT {p:Sx.Ty} (W:World) (v:Value) (h:IsTy W v p):∃cs:Array Value,v=.agg cs/\cs.toList.length=5/\(∀u∈cs.toList,u.oneCell'=true)/\RTy W cs.toList p:=by
 obtain⟨B1,d1,B2,d2,B3,d3,rfl,-⟩:=IsTy.agg h;exact⟨_,rfl,rfl,by simp[Value.oneCell'],_,_,_,_,_,rfl,h⟩
theorem rdE {p:Sx.Ex} (W:World) (v:Value) (h:IsEx W v p):∃cs:Array Value,v=.agg cs/\cs.toList.length=7/\(∀u∈cs.toList,u.oneCell'=true)/\REx W cs.toList p:=by
 obtain⟨B1,d1,B2,d2,B3,d3,rfl,-⟩:=IsEx.agg h;exact⟨_,rfl,rfl,by simp[Value.oneCell'],_,_,_,_,_,_,_,rfl,h⟩
end Go.Proofs.YtdncljdfmdgdaaaGreatDoor
