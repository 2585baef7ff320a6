/-
  The walk of coilkeep.OwnExpr.
-/
import Derived.Test.YtdncljdfmdgdaaaGreatDoorM1
import Derived.Test.YtdncljdfmdgdaaaGreatDoorM30
import Derived.Test.YtdncljdfmdgdaaaGreatDoorM9
import Derived.Test.YtdncljdfmdgdaaaGreatDoorM18
import Derived.Test.YtdncljdfmdgdaaaGreatDoorM16
set_option linter.unusedSimpArgs false
set_option linter.unusedVariables false
set_option maxRecDepth 100000
set_option maxHeartbeats 16000000
namespace Go.Proofs.YtdncljdfmdgdaaaGreatDoor
open Go.RowKit Go.Shelf
attribute [local go_sem] opWp zoZ zvZ zpZ
structure OwnEx (L:Nat) (W:World) (c0 c1 c2:Array Value) (w:World):Prop where
 b:Below L W w
 k0:w.heap[L]? =some (.cells c0 39 (0,0))
 k1:w.heap[L+1]? =some (.cells c1 39 (0,0))
 k2:w.heap[L+1+1]? =some (.cells c2 39 (0,0))
theorem OwnEx.go {L:Nat} {W w w':World} {c0 c1 c2:Array Value} (h:OwnEx L W c0 c1 c2 w) (hb:Below w.heap.size w w'):OwnEx L W c0 c1 c2 w':=
 have hl:=zaZ h.k2
 ⟨h.b.trans (hb.mono (by omega)),(hb.block _ (by omega)).trans h.k0,(hb.block _ (by omega)).trans h.k1,(hb.block _ hl).trans h.k2⟩
theorem OwnEx.grown {L:Nat} {W w w':World} {c0 c1 c2:Array Value} (h:OwnEx L W c0 c1 c2 w) {r:Option Nat} (hg:w.grownBy w' r) (hr:∀j,r=some j->L+1+1+1<=j):OwnEx L W c0 c1 c2 w':=
 have hl:=zaZ h.k2
 ⟨h.b.grown hg (by omega) (fun j e=>by have:=hr j e;omega),(hg.block _ (by omega) (fun e=>by have:=hr _ e.symm;omega)).trans h.k0,(hg.block _ (by omega) (fun e=>by have:=hr _ e.symm;omega)).trans h.k1,(hg.block _ hl (fun e=>by have:=hr _ e.symm;omega)).trans h.k2⟩
theorem OwnEx.set {L:Nat} {W w:World} {c0 c1 c2:Array Value} (h:OwnEx L W c0 c1 c2 w) (j:Nat) (v:Value):OwnEx L W c0 c1 (c2.setIfInBounds j v) (w.setCell ⟨L+1+1,j,none⟩ v):=
 ⟨h.b.setCell (by simp;omega) v,(yuZ _ _ _ _ (by simp;omega)).trans h.k0,(yuZ _ _ _ _ (by simp)).trans h.k1,yMZ _ _ _ _ _ _ h.k2⟩
theorem OwnEx.lt {L:Nat} {W w:World} {c0 c1 c2:Array Value} (h:OwnEx L W c0 c1 c2 w):L<w.heap.size/\L+1<w.heap.size/\L+1+1<w.heap.size:=⟨zaZ h.k0,zaZ h.k1,zaZ h.k2⟩
theorem OwnEx.push {α:Type} {R:World->List Value->α->Prop} (hR:∀W W' cs t,Sub W W'->R W cs t->R W' cs t) {L M e size j:Nat} {W wr w7 W9 w9:World} {c0 c1 c2:Array Value} {v0 v9:Value} {l:List α} (hs:OwnEx L W c0 c1 c2 wr)
  (hq:∀gg,L+1+1+1<=gg->gg<M->wr.heap[gg]? =w7.heap[gg]?) (hrl:∀b,v0.ownBlock=some b->M<=b/\b<wr.heap.size) (hM:L+1+1+1<=M) (hMw:M<=wr.heap.size) (hb:Below wr.heap.size wr W9) (hown:Own R e size M none w9 v9 l) (hgr:W9.grownBy w9 v0.ownBlock) :
  OwnEx L W c0 c1 (c2.setIfInBounds j v9) (w9.setCell ⟨L+1+1,j,none⟩ v9)/\(∀gg,L+1+1+1<=gg->gg<M->(w9.setCell ⟨L+1+1,j,none⟩ v9).heap[gg]? =w7.heap[gg]?)/\Own R e size M none (w9.setCell ⟨L+1+1,j,none⟩ v9) v9 l/\M<=(w9.setCell ⟨L+1+1,j,none⟩ v9).heap.size:=by
 have H1:=(hs.go hb).grown hgr (fun j e=>by have:=(hrl j e).1;omega);have H0:∀gg,gg≠L+1+1->(w9.setCell ⟨L+1+1,j,none⟩ v9).heap[gg]? =w9.heap[gg]? :=fun gg h=>yuZ _ _ _ _ h;refine⟨H1.set j _,fun gg h1 h2=>?_,?_,?_⟩
 ·rw[H0 gg (by omega),hgr.block gg (by have:=hb.size;omega) (fun e=>by have:=(hrl gg e.symm).1;omega),hb.block gg (by omega)];exact hq gg h1 h2
 ·exact hown.keep hR fun gg _ h _=>H0 gg (by omega)
 ·have:=hb.size;have:=hgr.size;simp[World.setCell];omega
theorem Sub.since_set2 {L j:Nat} {w:World} {v:Value} : Sub (only w (since (L+1+1+1))) (only (w.setCell ⟨L+1+1,j,none⟩ v) (since (L+1+1+1))):=Sub.since_keep fun g _ hB=>yuZ _ _ _ _ (by simp;omega)
theorem zrkZ:(Tryz.prog.info? 39).map (fun i=>(i.zero,i.size,i.bytes))=some (some (.agg #[.int .i64 0,.int .i64 0,.int .i64 0,.string ⟨#[]⟩,.slice none 0 0,.slice none 0 0,.slice none 0 0]),7,112):=by kernel_rfl
theorem IsEx.made2 {w:World} {pos k n:Int} {s:Lx.Bytes} {vt vn vp:Value} {t:List Sx.Ty} {ns:List Lx.Bytes} {ps:List Sx.Ex} (h1:TyRow w vt t) (h2:StrRow w vn ns) (h3:ExRow w vp ps) (hn0:-9223372036854775808<=n) (hn1:n<=9223372036854775807) :
  IsEx w (.agg #[.int .i64 pos,.int .i64 k,.int .i64 n,.string ⟨s.toArray⟩,vt,vn,vp]) (.mk pos k n s t ns ps):=by
 obtain⟨A,c,rfl,hc,hl⟩:=h3;rw[IsEx];exact⟨vt,vn,A,c,rfl,h1,h2,hc,hl,hn0,hn1⟩
theorem Own.tys_since {e L:Nat} {w:World} {v:Value} {l:List Sx.Ty} (h:Own RTy e 5 L none w v l):TyRow (only w (since L)) v l:=h.tys.sub (znZ fun g hg hs=>⟨zmZ.2 (zxZ.1 hs).1,rfl⟩)
theorem Own.exs_since {e L:Nat} {w:World} {v:Value} {l:List Sx.Ex} (h:Own REx e 7 L none w v l):ExRow (only w (since L)) v l:=h.exs.sub (znZ fun g hg hs=>⟨zmZ.2 (zxZ.1 hs).1,rfl⟩)
def OwnXOk (x:Sx.Ex):Prop:=∀(v:Value) (W:World),IsEx W v x->
 Calls Tryz.prog 32 #[v] W fun e W'=>∃v',e=.returned v'/\IsEx (only W' (since W.heap.size)) v' x/\Below W.heap.size W W'
theorem zrlZ (x:Sx.Ex) (hsz:Sx.sizeX x<=1000000) (ih:∀p∈x.parts,OwnXOk p):OwnXOk x:=by
 intro v W ht;obtain⟨At,ct,An,cn,Ap,cp,rfl,htt,hnm,hp,Hr,Ho⟩:=ht.agg;have Hy:=Sx.sizeX_parts x;have Hx:=Sx.length_sizeXs x.parts;have J1:=Sx.length_size x.t;obtain⟨nl,hnl⟩:=zE (x.names.length);obtain⟨tl,htl⟩:=zE (x.t.length);obtain⟨k,hk⟩:=zE (x.parts.length);obtain⟨ps,hps⟩:=zE (x.pos);obtain⟨kd,hkd⟩:=zE (x.kind);obtain⟨nn,hnn⟩:=zE (x.n);obtain⟨nm,hnmm⟩:=zE (x.s);rw[hnl]at hnm Hy;rw[htl]at htt J1;rw[hk]at hp Hx;rw[hnn]at Hr Ho;rw[hps,hkd,hnn,hnmm,hnl,htl,hk];have n1:nl<=1000000:=by omega
 have k0:(0:Int)<=(k:Int):=by omega
 have k1:(k:Int)<=1000000:=by omega
 have t0:(0:Int)<=(tl:Int):=by omega
 have t1:(tl:Int)<=1000000:=by omega
 obtain⟨L,hL⟩:=zE (W.heap.size);have J6:=zh hnm;have HT:=zh htt;have HP:=zh hp;have Je:=zh ih;have HK:=zh hk;have J3:=zh htl;have Hu:=zh (show k<=1000000/\tl<=1000000 by omega);have HL:=zh hL;have J7:=zh (show ∀p∈x.t,Sx.size p<=1000000 from fun p hp=>by have:=Sx.size_mem hp;omega);have Hi:=zh (And.intro Hr Ho);have J8:=zh (show x=.mk ps kd nn nm x.t x.names x.parts by cases x;subst hps hkd hnn hnmm;rfl);clear hnm hp htt ih hk htl hps hkd hnn hnmm hnl Hy Hx J1 hsz ht Hr Ho;go_enter Tryz.func32, Tryz.ntmps32;go_upto_region 2 with(fail);obtain⟨w3,hw3⟩:=zE ((((W.alloc (.cells #[.int .i64 ps,.int .i64 kd,.int .i64 nn,.string ⟨nm.toArray⟩,.slice At tl ct,.slice An nl cn,.slice Ap k cp] 39)).alloc (.cells #[.int .i64 0,.int .i64 0,.int .i64 0,.string ⟨#[]⟩,.slice none 0 0,.slice none 0 0,.slice none 0 0] 39)).alloc (.cells #[.int .i64 0,.int .i64 kd,.int .i64 nn,.string ⟨nm.toArray⟩,.slice none 0 0,.slice none 0 0,.slice none 0 0] 39)));rw[hw3];have Hv:OwnEx L W #[.int .i64 ps,.int .i64 kd,.int .i64 nn,.string ⟨nm.toArray⟩,.slice At tl ct,.slice An nl cn,.slice Ap k cp] #[.int .i64 0,.int .i64 0,.int .i64 0,.string ⟨#[]⟩,.slice none 0 0,.slice none 0 0,.slice none 0 0] #[.int .i64 0,.int .i64 kd,.int .i64 nn,.string ⟨nm.toArray⟩,.slice none 0 0,.slice none 0 0,.slice none 0 0] w3:=by
  subst hL;refine⟨?_,?_,?_,?_⟩
  ·rw[<-hw3];exact(((yqZ _ W).alloc (ybZ _) _).alloc (by simp) _).alloc (by simp;omega) _
  ·rw[<-hw3];exact heap_alloc (heap_alloc (ydZ W _) _) _
  ·rw[<-hw3];have:=ydZ (W.alloc (.cells #[.int .i64 ps,.int .i64 kd,.int .i64 nn,.string ⟨nm.toArray⟩,.slice At tl ct,.slice An nl cn,.slice Ap k cp] 39)) (.cells #[.int .i64 0,.int .i64 0,.int .i64 0,.string ⟨#[]⟩,.slice none 0 0,.slice none 0 0,.slice none 0 0] 39);rw[show(W.alloc (.cells #[.int .i64 ps,.int .i64 kd,.int .i64 nn,.string ⟨nm.toArray⟩,.slice At tl ct,.slice An nl cn,.slice Ap k cp] 39)).heap.size=W.heap.size+1 by simp]at this;exact heap_alloc this _
  ·rw[<-hw3];have:=ydZ ((W.alloc (.cells #[.int .i64 ps,.int .i64 kd,.int .i64 nn,.string ⟨nm.toArray⟩,.slice At tl ct,.slice An nl cn,.slice Ap k cp] 39)).alloc (.cells #[.int .i64 0,.int .i64 0,.int .i64 0,.string ⟨#[]⟩,.slice none 0 0,.slice none 0 0,.slice none 0 0] 39)) (.cells #[.int .i64 0,.int .i64 kd,.int .i64 nn,.string ⟨nm.toArray⟩,.slice none 0 0,.slice none 0 0,.slice none 0 0] 39);rw[show((W.alloc (.cells #[.int .i64 ps,.int .i64 kd,.int .i64 nn,.string ⟨nm.toArray⟩,.slice At tl ct,.slice An nl cn,.slice Ap k cp] 39)).alloc (.cells #[.int .i64 0,.int .i64 0,.int .i64 0,.string ⟨#[]⟩,.slice none 0 0,.slice none 0 0,.slice none 0 0] 39)).heap.size=W.heap.size+1+1 by simp]at this;exact this
 have Hc:w3.heap.size=L+1+1+1:=by rw[<-hw3,<-hL];simp
 have Hb:=zh Hv;have Jc:=zh Hc;clear hw3 Hv Hc;obtain⟨x0,x1,x2,x3,x4,x5,x6⟩:=zbZ Hb.o.k0;obtain⟨f0,f1,f2,f3,f4,f5,f6⟩:=zcsZ Hb.o.k2;obtain⟨y0,y1,y2,y3,y4,y5,y6⟩:=zbZ Hb.o.k2;obtain⟨l1,l2,l3⟩:=Hb.o.lt;go_upto_region 3 with fail
 obtain⟨w4,hw4⟩:=zE (w3.setCell ⟨L+1+1,0,none⟩ (.int .i64 ps));rw[hw4];have Hk:=Hb.o.set 0 (.int .i64 ps);rw[hw4]at Hk;have HS:=zh (show OwnEx L W #[.int .i64 ps,.int .i64 kd,.int .i64 nn,.string ⟨nm.toArray⟩,.slice At tl ct,.slice An nl cn,.slice Ap k cp] #[.int .i64 0,.int .i64 0,.int .i64 0,.string ⟨#[]⟩,.slice none 0 0,.slice none 0 0,.slice none 0 0] #[.int .i64 ps,.int .i64 kd,.int .i64 nn,.string ⟨nm.toArray⟩,.slice none 0 0,.slice none 0 0,.slice none 0 0] w4 from Hk);have He:=zh (show w4.heap.size=L+1+1+1 by rw[<-hw4];simp[World.setCell];exact Jc.o);clear hw4 Hk x0 x1 x2 x3 x4 x5 x6 y0 y1 y2 y3 y4 y5 y6 f0 f1 f2 f3 f4 f5 f6 l1 l2 l3;obtain⟨x0,x1,x2,x3,x4,x5,x6⟩:=zbZ HS.o.k0;obtain⟨y0,y1,y2,y3,y4,y5,y6⟩:=zbZ HS.o.k2;obtain⟨l1,l2,l3⟩:=HS.o.lt;go_upto_region 4 with(first
  | (at_builtin;refine zdfZ rfl _ _ rfl rfl rfl (J6.o.below (by rw[HL.o];exact HS.o.b)) n1 ?_;intro AN cN w5 Hs Ht;have Hg:=HS.o.go Ht;obtain⟨m1,m2,m3⟩:=Hg.lt;obtain⟨f0,f1,f2,f3,f4,f5,f6⟩:=zcsZ Hg.k2;obtain⟨q0,q1,q2,q3,q4,q5,q6⟩:=zbZ Hg.k2))
 obtain⟨w7,hw7⟩:=zE (w5.setCell ⟨L+1+1,5,none⟩ (.slice AN nl cN));rw[hw7];have Hf:=Hg.set 5 (.slice AN nl cN);rw[hw7]at Hf;have J2:StrRow (only w7 (since (L+1+1+1))) (.slice AN nl cN) x.names:=by rw[He.o]at Hs;rw[<-hw7];exact Hs.sub Sub.since_set2
 have Hw:L+1+1+1<=w7.heap.size:=by have:=Ht.size;have:=He.o;rw[<-hw7];simp[World.setCell];omega
 have J9:=zh (show OwnEx L W #[.int .i64 ps,.int .i64 kd,.int .i64 nn,.string ⟨nm.toArray⟩,.slice At tl ct,.slice An nl cn,.slice Ap k cp] #[.int .i64 0,.int .i64 0,.int .i64 0,.string ⟨#[]⟩,.slice none 0 0,.slice none 0 0,.slice none 0 0] #[.int .i64 ps,.int .i64 kd,.int .i64 nn,.string ⟨nm.toArray⟩,.slice none 0 0,.slice AN nl cN,.slice none 0 0] w7 from Hf);have Jb:=zh J2;clear Hg Hf Hs J2 Ht hw7 f0 f1 f2 f3 f4 f5 f6 q0 q1 q2 q3 q4 q5 q6 m1 m2 m3 x0 x1 x2 x3 x4 x5 x6 y0 y1 y2 y3 y4 y5 y6 l1 l2 l3;go_wp2_with fail;obtain⟨M,hM⟩:=zE (w7.heap.size);have HM:=zh hM;rw[hM]at Hw;have Hj:=zh Hw;clear hM;go_loopg [4] tl (fun i v wr=>∃(m:Nat) (A:Option Addr) (c:Nat),i=tl-m/\v=.int .i64 (m:Nat)/\m<=tl/\OwnEx L W #[.int .i64 ps,.int .i64 kd,.int .i64 nn,.string ⟨nm.toArray⟩,.slice At tl ct,.slice An nl cn,.slice Ap k cp] #[.int .i64 0,.int .i64 0,.int .i64 0,.string ⟨#[]⟩,.slice none 0 0,.slice none 0 0,.slice none 0 0] #[.int .i64 ps,.int .i64 kd,.int .i64 nn,.string ⟨nm.toArray⟩,.slice A m c,.slice AN nl cN,.slice none 0 0] wr/\
   (∀gg,L+1+1+1<=gg->gg<M->wr.heap[gg]? =w7.heap[gg]?)/\Own RTy 26 5 M none wr (.slice A m c) (x.t.take m)/\M<=wr.heap.size)
 case atStart=>exact⟨0,none,0,rfl,rfl,yxZ _,J9.o,fun _ _ _=>rfl,Own.nil,Nat.le_of_eq HM.o.symm⟩
 case round=>
  obtain⟨m,A,c,hi,rfl,hm,hs,hq,ho,hz⟩:=hrel;have HI:=zh hi;have H0:=zh hs;have H6:=zh hq;have HO:=zh ho;have HZ:=zh hz;have m0:(0:Int)<=(m:Int):=(by omega);clear hi hs hq ho;obtain⟨x0,x1,x2,x3,x4,x5,x6⟩:=zbZ H0.o.k0;obtain⟨y0,y1,y2,y3,y4,y5,y6⟩:=zbZ H0.o.k2;obtain⟨l1,l2,l3⟩:=H0.o.lt;by_cases hlt:m<tl
  ·have Hp:(m:Int)<(tl:Int):=(by omega);have Ji:IntKind.i64.wrap ((m:Int)+1)=(m:Int)+1:=(by rw[yQZ];omega);have H5:m<x.t.length:=(by have:=J3.o;omega);obtain⟨g,off,An1,cn1,Ae1,ce1,Aq,cq,rfl,hty,hc5⟩:=HT.o.spot m H5;rw[HL.o]at hc5;have H7:=zh hc5;have H9:=zh (ykZ H5);have H8:=zh (show(x.t.take m).length=m by rw[yUZ];omega);have H3:=yfZ H5;obtain⟨p,hpe⟩:=zE (x.t[m]'H5);rw[hpe]at H7 hty H3 H9;have Hn:=zh (fun X (hX:Below wr.heap.size wr X)=>zjeZ 1000000 p (J7.o p H3) (ybZ _) _ X (IsTy.below (by rw[HL.o];exact(H0.o.go hX).b) _ _ hty));have J4:=zh hlt;clear H3 hpe hty hc5;have Hh:=zh (fun b (e:(Value.slice A m c).ownBlock=some b)=>Own.lt HO.o b e);obtain⟨lm,hlm⟩:=zE (x.t.take m);rw[hlm]at HO H8 H9;go_upto_region 7 with(fail)
   clear x0 x1 x2 x3 x4 x5 x6 y0 y1 y2 y3 y4 y5 y6 l1 l2 l3;obtain⟨Fs,⟨F0,F1,F2,F3,F4,F5,F6,F7,F8,F9,F10,F11,-⟩,hstay⟩:=zehZ [IsF (.pointer (some ⟨L+1+1,4,none⟩)),IsF (.slice A m c),IsF (.pointer (some ⟨L,4,none⟩)),IsF (.slice (some ⟨g,off,none⟩) tl ct),IsF (.int .i64 (m:Int)),IsF (.pointer (some ⟨g,off+m * 5,none⟩)),IsF (.agg #[.int .i64 p.kind,.string ⟨p.name.toArray⟩,.slice An1 p.names.length cn1,.slice Ae1 p.embeds.length ce1,.slice Aq p.parts.length cq]),TreeF IsTy wr.heap.size p,BoxF RTy 26 5 wr.heap.size p,AppF 0,IsF (.pointer (some ⟨L+1+1,4,none⟩)),Early fun _ _=>True] (by repeat' first | exact .nil | refine .cons (by first | exact IsF.stays | exact TreeF.stays (fun W W2 x hs h=>IsTy.sub hs _ _ h) | exact BoxF.stays RTy.sub | exact AppF.staysP | exact Early.stays fun _ _ _ _ h=>h) ?_);have H4:=zh (show wr.heap[(L+1+1)]? =some (.cells #[.int .i64 ps,.int .i64 kd,.int .i64 nn,.string ⟨nm.toArray⟩,.slice A m c,.slice AN nl cN,.slice none 0 0] 39 (0,0))from H0.o.k2);refine zbcZ (by kernel_rfl) [9,11] (PushI RTy 26 5 M none wr (.slice A m c) (lm) p (L+1+1) 4) PushM Fs undef (by kernel_rfl) (by kernel_rfl) (by kernel_rfl) (by kernel_rfl) (by kernel_rfl) hstay (n:=12) (by kernel_rfl) (show Below _ _ _ from Below.drewN (yqZ _ _) 1) ?_ ?_
   ·repeat' first | refine OpsOk.cons ?_ ?_ | fail
    ·exact .pf flX (zaZ H4.o) F0 (.n 3)
    ·exact .pl ldA [1] H4.o F1 (.f 31 F0)
    ·refine OpOk.val0 [8,7,6,5,3,2] (by kernel_rfl) rfl rfl F2 fun ρ wq r E hbq K hK=>?_;have e101:ρ (.tmp 1)=.pointer (some ⟨L,0,none⟩):=E.n 1 (by kernel_rfl);obtain⟨x0,x1,x2,x3,x4,x5,x6⟩:=zbZ (H0.o.go hbq).k0;obtain⟨l1,l2,l3⟩:=(H0.o.go hbq).lt;go_simp;exact hK
    ·refine OpOk.val0 [8,7,6,5,3] (by kernel_rfl) rfl rfl F3 fun ρ wq r E hbq K hK=>?_;have e133:=E.e 33 2 (by kernel_rfl) F2;obtain⟨x0,x1,x2,x3,x4,x5,x6⟩:=zbZ (H0.o.go hbq).k0;obtain⟨l1,l2,l3⟩:=(H0.o.go hbq).lt;go_simp;exact hK
    ·exact .m F4 (.n 4)
    ·refine OpOk.val0 [8,7,6,5] (by kernel_rfl) rfl rfl F5 fun ρ wq r E hbq K hK=>?_;have e134:=E.e 34 3 (by kernel_rfl) F3;have e135:=E.e 35 4 (by kernel_rfl) F4;obtain⟨hg,c0,c1,c2,c3,c4⟩:=H7.o wq (H0.o.go hbq).b;go_simp;exact hK
    ·refine OpOk.val0 [8,7,6] (by kernel_rfl) rfl rfl F6 fun ρ wq r E hbq K hK=>?_;have e136:=E.e 36 5 (by kernel_rfl) F5;obtain⟨hg,c0,c1,c2,c3,c4⟩:=H7.o wq (H0.o.go hbq).b;go_simp;exact hK
    ·exact .pc [8,7] F7 (fun W W2 x hs h=>IsTy.sub hs _ _ h) Tryz.func26 (.f 37 F6) fun w hb=>Hn.o w hb
    ·exact .pb [8] RTy.sub F8 F7 38 rdT fun ρ w K cs h1 h2 h3=>bsT rfl h1 h2 h3
    ·exact .pp RTy.sub 32 39 F9 F1 F8 HO.o Tryz.underlying24 zlhZ HZ.o (by have:=H8.o;have:=Hu.o;omega)
    ·exact .pf flX (zaZ H4.o) F10 (.n 3)
    ·exact .ps (fun ho=>stTX (.inl ho)) (zaZ H4.o) (fun e=>by have:=(Hh.o _ e).1;have:=Hj.o;omega) H4.o rfl F9 F11 F10 41 40
    ·exact .nil
   ·intro uq wq rq hI hF;obtain⟨A9,c9,W9,w9,rfl,hb9,hown9,hgr9,rfl⟩:=hI;simp only[yyZ,fillAct,Act.put,yoZ,yzZ,yAZ];clear hF H4 F0 F1 F2 F3 F4 F5 F6 F7 F8 F9 F10 F11 hstay;have H1:=OwnEx.push RTy.sub H0.o H6.o (fun b e=>Hh.o b e) Hj.o HZ.o hb9 hown9 hgr9 (j:=4);rw[H8.o]at H1 ⊢;obtain⟨W10,hW10⟩:=zE (w9.setCell ⟨L+1+1,4,none⟩ (.slice A9 (m+1) c9));rw[hW10]at H1 ⊢;rw[<-H9.o]at H1;have Hm:=zh (show(OwnEx L W #[.int .i64 ps,.int .i64 kd,.int .i64 nn,.string ⟨nm.toArray⟩,.slice (some ⟨g,off,none⟩) tl ct,.slice An nl cn,.slice Ap k cp] #[.int .i64 0,.int .i64 0,.int .i64 0,.string ⟨#[]⟩,.slice none 0 0,.slice none 0 0,.slice none 0 0] #[.int .i64 ps,.int .i64 kd,.int .i64 nn,.string ⟨nm.toArray⟩,.slice A9 (m+1) c9,.slice AN nl cN,.slice none 0 0] W10)/\_ from H1);clear hW10 H1 hown9 hgr9 hb9;go_wp2_with fail;go_roundg (tl-(m+1))
    case measure=>have:=HI.o;omega
    case rel=>exact⟨m+1,A9,c9,rfl,by simp,hlt,Hm.o⟩
  ·have Hp:¬(m:Int)<(tl:Int):=(by omega);obtain rfl:tl=m:=(by omega);obtain⟨AT,rfl⟩:∃q,q=A:=⟨A,rfl⟩;obtain⟨cT,rfl⟩:∃q,q=c:=⟨c,rfl⟩;obtain⟨w8,rfl⟩:∃q,q=wr:=⟨wr,rfl⟩;have Hd:=yjZ (show x.t.length<=tl by have:=J3.o;omega);have H2:=HO.o;rw[Hd]at H2;have Jh:=zh H2.tys_since;have Jf:=H0;clear Hd H2 x0 x1 x2 x3 x4 x5 x6 y0 y1 y2 y3 y4 y5 y6 l1 l2 l3;obtain⟨x0,x1,x2,x3,x4,x5,x6⟩:=zbZ H0.o.k0;obtain⟨l1,l2,l3⟩:=H0.o.lt;go_wp2_with fail;obtain⟨M2,hM2⟩:=zE (w8.heap.size);have J0:=zh hM2;have Hq:=zh (show L+1+1+1<=M2 by rw[<-hM2];exact ymZ Hj.o HZ.o);have Jg:=zh (show M<=M2 by rw[<-hM2];exact HZ.o);have Jd:=H6;clear hM2 x0 x1 x2 x3 x4 x5 x6 l1 l2 l3 HI HO H0 H6 HZ;go_loopg [5] k (fun i v wr=>∃(m:Nat) (A:Option Addr) (c:Nat),i=k-m/\v=.int .i64 (m:Nat)/\m<=k/\OwnEx L W #[.int .i64 ps,.int .i64 kd,.int .i64 nn,.string ⟨nm.toArray⟩,.slice At tl ct,.slice An nl cn,.slice Ap k cp] #[.int .i64 0,.int .i64 0,.int .i64 0,.string ⟨#[]⟩,.slice none 0 0,.slice none 0 0,.slice none 0 0] #[.int .i64 ps,.int .i64 kd,.int .i64 nn,.string ⟨nm.toArray⟩,.slice AT tl cT,.slice AN nl cN,.slice A m c] wr/\
     (∀gg,L+1+1+1<=gg->gg<M2->wr.heap[gg]? =w8.heap[gg]?)/\Own REx 39 7 M2 none wr (.slice A m c) (x.parts.take m)/\M2<=wr.heap.size)
   case atStart=>exact⟨0,none,0,rfl,rfl,yxZ _,Jf.o,fun _ _ _=>rfl,Own.nil,Nat.le_of_eq J0.o.symm⟩
   case round=>
    obtain⟨m,A,c,hi,rfl,hm,hs,hq,ho,hz⟩:=hrel;have HI:=zh hi;have H0:=zh hs;have H6:=zh hq;have HO:=zh ho;have HZ:=zh hz;have m0:(0:Int)<=(m:Int):=(by omega);clear hi hs hq ho;obtain⟨x0,x1,x2,x3,x4,x5,x6⟩:=zbZ H0.o.k0;obtain⟨y0,y1,y2,y3,y4,y5,y6⟩:=zbZ H0.o.k2;obtain⟨l1,l2,l3⟩:=H0.o.lt;by_cases hlt:m<k
    ·have Hp:(m:Int)<(k:Int):=(by omega);have Ji:IntKind.i64.wrap ((m:Int)+1)=(m:Int)+1:=(by rw[yQZ];omega);have H5:m<x.parts.length:=(by have:=HK.o;omega);obtain⟨g,off,Atp,ctp,Anp,cnp,App,cpp,rfl,hty,hc5⟩:=HP.o.spot m H5;rw[HL.o]at hc5;have H7:=zh hc5;have H9:=zh (ykZ H5);have H8:=zh (show(x.parts.take m).length=m by rw[yUZ];omega);have H3:=yfZ H5;obtain⟨p,hpe⟩:=zE (x.parts[m]'H5);rw[hpe]at H7 hty H3 H9;have Hn:=zh (fun X (hX:Below wr.heap.size wr X)=>Je.o p H3 _ X (IsEx.below (by rw[HL.o];exact(H0.o.go hX).b) _ _ hty));have J4:=zh hlt;clear H3 hpe hty hc5;have Hh:=zh (fun b (e:(Value.slice A m c).ownBlock=some b)=>Own.lt HO.o b e);obtain⟨lm,hlm⟩:=zE (x.parts.take m);rw[hlm]at HO H8 H9;go_upto_region 11 with(fail)
     clear x0 x1 x2 x3 x4 x5 x6 y0 y1 y2 y3 y4 y5 y6 l1 l2 l3;obtain⟨Fs,⟨F0,F1,F2,F3,F4,F5,F6,F7,F8,F9,F10,F11,-⟩,hstay⟩:=zehZ [IsF (.pointer (some ⟨L+1+1,6,none⟩)),IsF (.slice A m c),IsF (.pointer (some ⟨L,6,none⟩)),IsF (.slice (some ⟨g,off,none⟩) k cp),IsF (.int .i64 (m:Int)),IsF (.pointer (some ⟨g,off+m * 7,none⟩)),IsF (.agg #[.int .i64 p.pos,.int .i64 p.kind,.int .i64 p.n,.string ⟨p.s.toArray⟩,.slice Atp p.t.length ctp,.slice Anp p.names.length cnp,.slice App p.parts.length cpp]),TreeF IsEx wr.heap.size p,BoxF REx 39 7 wr.heap.size p,AppF 0,IsF (.pointer (some ⟨L+1+1,6,none⟩)),Early fun _ _=>True] (by repeat' first | exact .nil | refine .cons (by first | exact IsF.stays | exact TreeF.stays (fun W W2 x hs h=>IsEx.sub hs _ _ h) | exact BoxF.stays REx.sub | exact AppF.staysP | exact Early.stays fun _ _ _ _ h=>h) ?_);have H4:=zh (show wr.heap[(L+1+1)]? =some (.cells #[.int .i64 ps,.int .i64 kd,.int .i64 nn,.string ⟨nm.toArray⟩,.slice AT tl cT,.slice AN nl cN,.slice A m c] 39 (0,0))from H0.o.k2);refine zbcZ (by kernel_rfl) [9,11] (PushI REx 39 7 M2 none wr (.slice A m c) (lm) p (L+1+1) 6) PushM Fs undef (by kernel_rfl) (by kernel_rfl) (by kernel_rfl) (by kernel_rfl) (by kernel_rfl) hstay (n:=12) (by kernel_rfl) (show Below _ _ _ from Below.drewN (yqZ _ _) 1) ?_ ?_
     ·repeat' first | refine OpsOk.cons ?_ ?_ | fail
      ·exact .pf flX (zaZ H4.o) F0 (.n 3)
      ·exact .pl ldA [1] H4.o F1 (.f 49 F0)
      ·refine OpOk.val0 [8,7,6,5,3,2] (by kernel_rfl) rfl rfl F2 fun ρ wq r E hbq K hK=>?_;have e101:ρ (.tmp 1)=.pointer (some ⟨L,0,none⟩):=E.n 1 (by kernel_rfl);obtain⟨x0,x1,x2,x3,x4,x5,x6⟩:=zbZ (H0.o.go hbq).k0;obtain⟨l1,l2,l3⟩:=(H0.o.go hbq).lt;go_simp;exact hK
      ·refine OpOk.val0 [8,7,6,5,3] (by kernel_rfl) rfl rfl F3 fun ρ wq r E hbq K hK=>?_;have e151:=E.e 51 2 (by kernel_rfl) F2;obtain⟨x0,x1,x2,x3,x4,x5,x6⟩:=zbZ (H0.o.go hbq).k0;obtain⟨l1,l2,l3⟩:=(H0.o.go hbq).lt;go_simp;exact hK
      ·exact .m F4 (.n 5)
      ·refine OpOk.val0 [8,7,6,5] (by kernel_rfl) rfl rfl F5 fun ρ wq r E hbq K hK=>?_;have e152:=E.e 52 3 (by kernel_rfl) F3;have e153:=E.e 53 4 (by kernel_rfl) F4;obtain⟨hg,c0,c1,c2,c3,c4,c5,c6⟩:=H7.o wq (H0.o.go hbq).b;go_simp;exact hK
      ·refine OpOk.val0 [8,7,6] (by kernel_rfl) rfl rfl F6 fun ρ wq r E hbq K hK=>?_;have e154:=E.e 54 5 (by kernel_rfl) F5;obtain⟨hg,c0,c1,c2,c3,c4,c5,c6⟩:=H7.o wq (H0.o.go hbq).b;go_simp;exact hK
      ·exact .pc [8,7] F7 (fun W W2 x hs h=>IsEx.sub hs _ _ h) Tryz.func32 (.f 55 F6) fun w hb=>Hn.o w hb
      ·exact .pb [8] REx.sub F8 F7 56 rdE fun ρ w K cs h1 h2 h3=>bsE rfl h1 h2 h3
      ·exact .pp REx.sub 50 57 F9 F1 F8 HO.o Tryz.underlying37 zrkZ HZ.o (by have:=H8.o;have:=Hu.o;omega)
      ·exact .pf flX (zaZ H4.o) F10 (.n 3)
      ·exact .ps (fun ho=>stTX (.inr ho)) (zaZ H4.o) (fun e=>by have:=(Hh.o _ e).1;have:=Hq.o;omega) H4.o rfl F9 F11 F10 59 58
      ·exact .nil
     ·intro uq wq rq hI hF;obtain⟨A9,c9,W9,w9,rfl,hb9,hown9,hgr9,rfl⟩:=hI;simp only[yyZ,fillAct,Act.put,yoZ,yzZ,yAZ];clear hF H4 F0 F1 F2 F3 F4 F5 F6 F7 F8 F9 F10 F11 hstay;have H1:=OwnEx.push REx.sub H0.o H6.o (fun b e=>Hh.o b e) Hq.o HZ.o hb9 hown9 hgr9 (j:=6);rw[H8.o]at H1 ⊢;obtain⟨W10,hW10⟩:=zE (w9.setCell ⟨L+1+1,6,none⟩ (.slice A9 (m+1) c9));rw[hW10]at H1 ⊢;rw[<-H9.o]at H1;have Hm:=zh (show(OwnEx L W #[.int .i64 ps,.int .i64 kd,.int .i64 nn,.string ⟨nm.toArray⟩,.slice At tl ct,.slice An nl cn,.slice (some ⟨g,off,none⟩) k cp] #[.int .i64 0,.int .i64 0,.int .i64 0,.string ⟨#[]⟩,.slice none 0 0,.slice none 0 0,.slice none 0 0] #[.int .i64 ps,.int .i64 kd,.int .i64 nn,.string ⟨nm.toArray⟩,.slice AT tl cT,.slice AN nl cN,.slice A9 (m+1) c9] W10)/\_ from H1);clear hW10 H1 hown9 hgr9 hb9;go_wp2_with fail;go_roundg (k-(m+1))
      case measure=>have:=HI.o;omega
      case rel=>exact⟨m+1,A9,c9,rfl,by simp,hlt,Hm.o⟩
    ·have Hp:¬(m:Int)<(k:Int):=(by omega);have Hd:=yjZ (show x.parts.length<=m by have:=HK.o;omega);have H2:=HO.o;rw[Hd]at H2;obtain⟨z0,z1,z2,z3,z4,z5,z6⟩:=zbZ H0.o.k1;obtain⟨f0,f1,f2,f3,f4,f5,f6⟩:=zcsZ H0.o.k1;have Hl:=zh H2.exs_since;clear Hd H2;go_wp2_with fail;obtain⟨wz,hwz⟩:=zE ((((((((wr.setCell ⟨L+1,0,none⟩ (.int .i64 ps)).setCell ⟨L+1,1,none⟩ (.int .i64 kd)).setCell ⟨L+1,2,none⟩ (.int .i64 nn)).setCell ⟨L+1,3,none⟩ (.string ⟨nm.toArray⟩)).setCell ⟨L+1,4,none⟩ (.slice AT tl cT)).setCell ⟨L+1,5,none⟩ (.slice AN nl cN)).setCell ⟨L+1,6,none⟩ (.slice A m c)));rw[hwz];have Hz:=(yMZ _ _ 6 _ _ (.slice A m c) (yMZ _ _ 5 _ _ (.slice AN nl cN) (yMZ _ _ 4 _ _ (.slice AT tl cT) (yMZ _ _ 3 _ _ (.string ⟨nm.toArray⟩) (yMZ _ _ 2 _ _ (.int .i64 nn) (yMZ _ _ 1 _ _ (.int .i64 kd) (yMZ _ _ 0 _ _ (.int .i64 ps) H0.o.k1)))))));have J5:Below L W wz:=(by rw[<-hwz];exact(((((((H0.o.b.setCell (by simp) _).setCell (by simp) _).setCell (by simp) _).setCell (by simp) _).setCell (by simp) _).setCell (by simp) _).setCell (by simp) _));have Ha:∀gg,gg≠L+1->wz.heap[gg]? =wr.heap[gg]? :=fun gg h=>(by rw[<-hwz];exact(yuZ _ _ _ _ h).trans ((yuZ _ _ _ _ h).trans ((yuZ _ _ _ _ h).trans ((yuZ _ _ _ _ h).trans ((yuZ _ _ _ _ h).trans ((yuZ _ _ _ _ h).trans (yuZ _ _ _ _ h)))))));rw[hwz]at Hz;obtain⟨q0,q1,q2,q3,q4,q5,q6⟩:=zbZ (show wz.heap[L+1]? =some (.cells #[.int .i64 ps,.int .i64 kd,.int .i64 nn,.string ⟨nm.toArray⟩,.slice AT tl cT,.slice AN nl cN,.slice A m c] 39 (0,0))from Hz);have Hf:Sub (only w7 (since (L+1+1+1))) (only wz (since L)):=znZ fun gg hg hs=>(by have h1:=zmZ.1 hs;refine⟨zmZ.2 (by omega),?_⟩;rw[Ha gg (by omega),H6.o gg h1 (by have:=HM.o;have:=Jg.o;omega)];exact Jd.o gg h1 (by have:=HM.o;omega));have Ja:Sub (only w8 (since M)) (only wz (since L)):=znZ fun gg hg hs=>(by have h1:=zmZ.1 hs;have:=Hj.o;refine⟨zmZ.2 (by omega),?_⟩;rw[Ha gg (by omega)];exact H6.o gg (by omega) (by have:=J0.o;omega));have Jj:Sub (only wr (since M2)) (only wz (since L)):=znZ fun gg hg hs=>(by have h1:=zmZ.1 hs;have:=Hq.o;refine⟨zmZ.2 (by omega),?_⟩;rw[Ha gg (by omega)]);refine ylZ (v:=.agg #[.int .i64 ps,.int .i64 kd,.int .i64 nn,.string ⟨nm.toArray⟩,.slice AT tl cT,.slice AN nl cN,.slice A m c]) (by simp[results, Tryz.results32,go_sem,q0,q1,q2,q3,q4,q5,q6]) rfl ⟨_,rfl,?_,J5⟩;rw[J8.o];exact IsEx.made2 (Jh.o.sub Ja) (Jb.o.sub Hf) (Hl.o.sub Jj) Hi.o.1 Hi.o.2
theorem zmiZ:∀(n:Nat) (x:Sx.Ex),Sx.sizeX x<=n->n<=1000000->OwnXOk x
 | 0,x,h,_=>by have:=Sx.sizeX_pos x;omega
 | n+1,x,h,h1=>zrlZ x (by omega) fun p hp=>zmiZ n p (by
   have:=Sx.sizeX_mem hp;have:=Sx.sizeX_parts x;omega) (by omega)
def blk:Value->Option Nat
 | .pointer (some ⟨g,_,_⟩)=>some g
 | _=>none
def stZ:Array Value:=#[.int .i64 0,.int .i64 0,.string ⟨#[]⟩,.slice none 0 0,.slice none 0 0,.slice none 0 0,.slice none 0 0]
def stC (ps kd:Int) (nm:Lx.Bytes) (vt vx vb ve:Value):Array Value:=#[.int .i64 ps,.int .i64 kd,.string ⟨nm.toArray⟩,vt,vx,vb,ve]
section
variable (K:Nat) (Wr:World) (kd:Int) (nm:Lx.Bytes) (b e:List Sx.St)
def NewI:Nat->World->Value->Prop
 | 0,w,r=>Below K Wr w/\r=undef
 | 1,w,r=>Below K Wr w/\∃g,r=.pointer (some ⟨g,0,none⟩)/\K<=g/\w.heap[g]? =some (.cells stZ 69 (0,0))
 | _,w,r=>Below K Wr w/\∃g vb ve,r=.pointer (some ⟨g,0,none⟩)/\K<=g/\w.heap[g]? =some (.cells (stC 0 kd nm (.slice none 0 0) (.slice none 0 0) vb ve) 69 (0,0))/\StRow (only w (but K none (some g))) vb b/\StRow (only w (but K none (some g))) ve e
def NewM:World->Value->Nat->World->Value->Nat->Prop:=fun w r k w' r' k'=>k<=k'/\(1<=k->r'=r)/\Sub (only w (but K none (blk r))) (only w' (but K none (blk r')))
def NewF (l:List Sx.St):Value->World->Value->Nat->Prop:=fun x w r _=>StRow (only w (but K none (blk r))) x l
def NewB:Value->World->Value->Nat->Prop:=fun x w r _=>∃vb ve,x=.agg (stC 0 kd nm (.slice none 0 0) (.slice none 0 0) vb ve)/\StRow (only w (but K none (blk r))) vb b/\StRow (only w (but K none (blk r))) ve e
def BoxIs:Value->World->Value->Nat->Prop:=fun x _ r k=>1<=k/\x=r
end
section
variable {K:Nat} {Wr:World} {kd:Int} {nm:Lx.Bytes} {b e:List Sx.St}
theorem NewF.stays {l:List Sx.St} : Stays (NewM K) (NewF K l):=fun x w r k w' r' k' hm h=>StRow.sub h hm.2.2
theorem NewB.stays:Stays (NewM K) (NewB K kd nm b e):=fun x w r k w' r' k' hm h=>by
 obtain⟨vb,ve,h1,h2,h3⟩:=h;exact⟨vb,ve,h1,h2.sub hm.2.2,h3.sub hm.2.2⟩
theorem BoxIs.stays:Stays (NewM K) BoxIs:=fun x w r k w' r' k' hm h=>⟨ymZ h.1 hm.1,h.2.trans (hm.2.1 h.1).symm⟩
theorem NewI.low {k:Nat} {w:World} {r:Value} (h:NewI K Wr kd nm b e k w r):Below K Wr w:=by
 match k,h with
 | 0,h=>exact h.1
 | 1,h=>exact h.1
 | k+2,h=>exact h.1
theorem NewI.box {k:Nat} {w:World} {r:Value} (h:NewI K Wr kd nm b e k w r):∀g,blk r=some g->g<w.heap.size:=by
 match k,h with
 | 0,h=>obtain⟨-,rfl⟩:=h;intro g hg;cases hg
 | 1,h=>obtain⟨-,g,rfl,-,h2⟩:=h;intro g' hg;injection hg with hg;subst hg;exact zaZ h2
 | k+2,h=>obtain⟨-,g,vb,ve,rfl,-,h2,-⟩:=h;intro g' hg;injection hg with hg;subst hg;exact zaZ h2
theorem Sub.but_below {w w':World} {X Y:Option Nat} (h:Below w.heap.size w w'):Sub (only w (but K X Y)) (only w' (but K X Y)):=znZ fun g hg hs=>⟨hs,h.block g hg⟩
theorem NewM.rf (w:World) (r:Value) (k:Nat):NewM K w r k w r k:=⟨ybZ _,fun _=>rfl,fun _ _ _ h=>h⟩
theorem NewM.below {w w':World} {r:Value} {k:Nat} (h:Below w.heap.size w w'):NewM K w r k w' r k:=⟨ybZ _,fun _=>rfl,Sub.but_below h⟩
theorem NewI.below (hK:K<=Wr.heap.size) {k:Nat} {w w':World} {r:Value} (h:NewI K Wr kd nm b e k w r) (hb:Below w.heap.size w w'):NewI K Wr kd nm b e k w' r:=by
 have hz:K<=w.heap.size:=ymZ hK h.low.size
 match k,h with
 | 0,h=>exact⟨h.1.trans (hb.mono hz),h.2⟩
 | 1,h=>obtain⟨h0,g,h1,h2,h3⟩:=h;exact⟨h0.trans (hb.mono hz),g,h1,h2,(hb.block g (zaZ h3)).trans h3⟩
 | k+2,h=>obtain⟨h0,g,vb,ve,h1,h2,h3,h4,h5⟩:=h;exact⟨h0.trans (hb.mono hz),g,vb,ve,h1,h2,(hb.block g (zaZ h3)).trans h3,h4.sub (Sub.but_below hb),h5.sub (Sub.but_below hb)⟩
variable {ops:Array Oper} {Q:Exit->Act->World->Prop} {a:Act} {apps:List Nat} {Fs:List (Value->World->Value->Nat->Prop)} {i:Nat} {o:Oper}
theorem OpOk.ncall {l:List Sx.St} {fn:Func} {c:Code} {f:FuncId} {xs:Array Operand} {ats:Array TypeId} {args:Array Value} (hK:K<=Wr.heap.size) (hi:apps.contains i=false) (hg:o.guard=none) (hF:nth Fs i=NewF K l)
  (ho:o.op=.call { callee:=.value (.func f),args:=xs,argTypes:=ats }) (hf : Tryz.prog.funcs[f]? =some fn) (hname:(fn.name== "runtime.NumGoroutine")=false) (hb:fn.body=some c)
  (ha:∀(ρ:Operand->Value) (w:World) (r:Value) (k:Nat),Ev ops.toList a Fs i ρ w r k->xs.map ρ=args)
  (h:∀w,Below K Wr w->Calls Tryz.prog f args w fun e w'=>∃v,e=.returned v/\StRow (only w' (since w.heap.size)) v l/\Below w.heap.size w w'):OpOk Tryz.prog Q ops a apps (NewI K Wr kd nm b e) (NewM K) (nth Fs) i o:=
 OpOk.plain hi hg fun ρ u L w r k h1 h2 h3 h4 h5 h6 h7 h8 h9 h10 h11 h12 C hC=>zcpZ ho hf hname hb (h5 f) (ha ρ w r k (Ev.mk' h1 h2 h3 h4 h5 h6 h7 h8 h9 h10)) ((h w h12.low).mono fun e w' ⟨v,he,hr,hb5⟩=>
  ⟨v,he,hC.o _ _ _ (NewM.below hb5) (h12.below hK hb5) (zboZ hF (hr.sub (znZ fun g hg hs=>⟨zxZ.2 ⟨ymZ (ymZ hK h12.low.size) (zmZ.1 hs),by simp,fun e=>by
   have h1:=h12.box g e.symm;have h2:=zmZ.1 hs;omega⟩,rfl⟩)))⟩)
theorem OpOk.nbuild {d1 d2 q1 q2:Nat} (hi:apps.contains i=false) (hg:o.guard=none) (hF:nth Fs i=NewB K kd nm b e) (hq1:nth Fs q1=NewF K b) (hr1:reads ops.toList i d1 q1=true) (hq2:nth Fs q2=NewF K e) (hr2:reads ops.toList i d2 q2=true)
  (h:∀(ρ:Operand->Value) (w:World) (r:Value) (k:Nat),Ev ops.toList a Fs i ρ w r k->∀(A1 A2:Option Addr) (n1 c1 n2 c2:Nat),ρ (.tmp d1)=.slice A1 n1 c1->ρ (.tmp d2)=.slice A2 n2 c2->∀C:Value->World->Prop,C (.agg (stC 0 kd nm (.slice none 0 0) (.slice none 0 0) (.slice A1 n1 c1) (.slice A2 n2 c2))) w->opWp Tryz.prog o ρ w C):OpOk Tryz.prog Q ops a apps (NewI K Wr kd nm b e) (NewM K) (nth Fs) i o:=
 OpOk.plain hi hg fun ρ u L w r k h1 h2 h3 h4 h5 h6 h7 h8 h9 h10 h11 h12 C hC=>by have E:=Ev.mk' h1 h2 h3 h4 h5 h6 h7 h8 h9 h10;have g1:=E.x d1 q1 hr1 hq1;have g2:=E.x d2 q2 hr2 hq2;obtain⟨A1,c1,e1,-,-⟩:=id g1;obtain⟨A2,c2,e2,-,-⟩:=id g2;rw[e1]at g1;rw[e2]at g2;exact h ρ w r k E _ _ _ _ _ _ e1 e2 C (hC.o _ _ _ (NewM.rf w r k) h12 (zboZ hF ⟨_,_,rfl,g1,g2⟩))
theorem OpOk.nalloc {i2:Nat} (hK:K<=Wr.heap.size) (hne:i≠i2) (hg:o.guard=none) (hF:nth Fs i=BoxIs)
  (h:∀(ρ:Operand->Value) (w:World) (C:Value->World->Prop),C (.pointer (some ⟨w.heap.size,0,none⟩)) (w.alloc (.cells stZ 69))->opWp Tryz.prog o ρ w C):OpOk Tryz.prog Q ops a [i,i2] (NewI K Wr kd nm b e) (NewM K) (nth Fs) i o:=by
 intro ρ u L w r k h1 h2 h3 h4 h5 h6 h7 h8 h9 H2 H1 H0 C hC;obtain rfl:k=0:=by have:=H1 i 0 rfl;have H3:¬0<k:=fun hlt=>h8 (this.2 hlt);omega
 rw[zceZ (by simp)]at hC;unfold guarded;rw[hg];obtain⟨hb,rfl⟩:=H0;have hz:K<=w.heap.size:=ymZ hK hb.size;refine h ρ w C (hC.o _ _ (.pointer (some ⟨w.heap.size,0,none⟩)) ⟨by omega,fun e=>by omega,znZ fun g hg hs=>?_⟩ ⟨hb.alloc hz _,w.heap.size,rfl,hz,ydZ w _⟩ ?_)
 ·obtain⟨p1,p2,p3⟩:=zxZ.1 hs;refine⟨zxZ.2 ⟨p1,p2,fun e=>?_⟩,((yqZ w.heap.size w).alloc (ybZ _) _).block g hg⟩;injection e with e;omega
 ·rw[hF];exact⟨ybZ _,rfl⟩
theorem zrmZ {P:Program} {o:Oper} {ρ:Operand->Value} {w:World} {C:Value->World->Prop} {x y:Operand} {g:Nat} {cs:Array Value} {i0 i1:Int} {s2:ByteArray} {A3 A4 A5 A6:Option Addr} {n3 n4 n5 n6 c3 c4 c5 c6:Nat} (ho:o.op=.store 69 x y) (hx:ρ x=.pointer (some ⟨g,0,none⟩)) (hy:ρ y=.agg #[.int .i64 i0,.int .i64 i1,.string s2,.slice A3 n3 c3,.slice A4 n4 c4,.slice A5 n5 c5,.slice A6 n6 c6])
  (hw:w.heap[g]? =some (.cells cs 69 (0,0))) (hcs:cs.size=7)
  (h:∀w' v,w'.heap[g]? =some (.cells #[.int .i64 i0,.int .i64 i1,.string s2,.slice A3 n3 c3,.slice A4 n4 c4,.slice A5 n5 c5,.slice A6 n6 c6] 69 (0,0))->(∀j,j≠g->w'.heap[j]? =w.heap[j]?)->(∀B W0,B<=g->Below B W0 w->Below B W0 w')->C v w'):opWp Tryz.prog o ρ w C:=by
 obtain⟨l,hl⟩:=zE (cs.toList);obtain⟨z0,z1,z2,z3,z4,z5,z6,hz⟩:∃z0 z1 z2 z3 z4 z5 z6,cs=#[z0,z1,z2,z3,z4,z5,z6]:=by
  have h7:l.length=7:=by rw[<-hl,Array.length_toList,hcs]
  match l,h7 with
  | [z0,z1,z2,z3,z4,z5,z6],_=>exact⟨z0,z1,z2,z3,z4,z5,z6,Array.toList_inj.1 hl⟩
 subst hz
 cases o with
 | mk dst op type pos after guard=>
  subst ho;obtain⟨x0,x1,x2,x3,x4,x5,x6⟩:=zbZ hw;obtain⟨f0,f1,f2,f3,f4,f5,f6⟩:=zcsZ hw;have H0:=zaZ hw;go_simp;refine h _ _ ?_ ?_ ?_
  ·exact yMZ _ _ 6 _ _ (.slice A6 n6 c6) (yMZ _ _ 5 _ _ (.slice A5 n5 c5) (yMZ _ _ 4 _ _ (.slice A4 n4 c4) (yMZ _ _ 3 _ _ (.slice A3 n3 c3) (yMZ _ _ 2 _ _ (.string s2) (yMZ _ _ 1 _ _ (.int .i64 i1) (yMZ _ _ 0 _ _ (.int .i64 i0) hw))))))
  ·intro j hj;exact(yuZ _ _ _ _ hj).trans ((yuZ _ _ _ _ hj).trans ((yuZ _ _ _ _ hj).trans ((yuZ _ _ _ _ hj).trans ((yuZ _ _ _ _ hj).trans ((yuZ _ _ _ _ hj).trans (yuZ _ _ _ _ hj))))))
  ·intro B W0 hB hb;exact((((((hb.setCell hB _).setCell hB _).setCell hB _).setCell hB _).setCell hB _).setCell hB _).setCell hB _
theorem OpOk.nstore {i2 d1 d2 q2:Nat} (hne:i≠i2) (hg:o.guard=none) (hF:nth Fs i2=fun _ _ _ _=>True) (hF1:nth Fs i=BoxIs) (hr1:reads ops.toList i2 d1 i=true) (hq2:nth Fs q2=NewB K kd nm b e) (hr2:reads ops.toList i2 d2 q2=true)
  (ho:o.op=.store 69 (.tmp d1) (.tmp d2)):OpOk Tryz.prog Q ops a [i,i2] (NewI K Wr kd nm b e) (NewM K) (nth Fs) i2 o:=by
 intro ρ u L w r k h1 h2 h3 h4 h5 h6 h7 h8 h9 H2 H1 H4 C hC;have H5:=H1 i 0 rfl;have H3:=H1 i2 1 rfl;have E:=Ev.mk' (Fs:=Fs) h1 h2 h3 h4 h5 h6 h7 h8 h9 H2;have H0:=hr1;unfold reads at H0;simp only[ygZ,ytZ]at H0;obtain rfl:k=1:=by have a1:=H5.1 (h6 i H0.2);have a2:¬1<k:=fun hlt=>h8 (H3.2 hlt);omega
 rw[zceZ (by simp)]at hC;unfold guarded;rw[hg];have hx:=(E.x d1 i hr1 hF1).2;obtain⟨vb,ve,hy,g1,g2⟩:=E.x d2 q2 hr2 hq2;obtain⟨hb,g,rfl,hKg,hbox⟩:=H4;obtain⟨A5,c5,rfl,-,-⟩:=id g1;obtain⟨A6,c6,rfl,-,-⟩:=id g2;refine zrmZ (P:= Tryz.prog) ho hx hy hbox rfl fun w' v q1 q3 q4=>?_;have hs:Sub (only w (but K none (some g))) (only w' (but K none (some g))):=znZ fun j hj hs=>⟨hs,q3 j fun e=>(zxZ.1 hs).2.2 (by rw[e])⟩;refine hC.o v w' (.pointer (some ⟨g,0,none⟩)) ⟨by omega,fun _=>rfl,hs⟩ ⟨q4 K Wr hKg hb,g,_,_,rfl,hKg,q1,StRow.sub g1 hs,StRow.sub g2 hs⟩ ?_;rw[hF];trivial
end
structure StIn (K M gb:Nat) (Wr w0:World) (cs:Array Value) (wr:World):Prop where
 hK:K<=gb
 hM:gb<M
 b:Below K Wr wr
 box:wr.heap[gb]? =some (.cells cs 69 (0,0))
 q:∀gg,K<=gg->gg≠gb->gg<M->wr.heap[gg]? =w0.heap[gg]?
 z:M<=wr.heap.size
theorem Below.grow {B:Nat} {w0 w w':World} {row:Option Nat} (hb:Below B w0 w) (hB:B<=w.heap.size) (hg:w.grownBy w' row) (hr:∀r,row=some r->B<=r):Below B w0 w':=
 ⟨hg.os.trans hb.os,hg.tape.trans hb.tape,hg.output.trans hb.output,ymZ hb.size hg.size,fun k hk=>(hg.block k (by omega) fun e=>by have:=hr k e.symm;omega).trans (hb.block k hk)⟩
theorem StIn.push {α:Type} {R:World->List Value->α->Prop} (hR:∀W W' cs t,Sub W W'->R W cs t->R W' cs t) {K M gb e size j:Nat} {Wr w0 wr W9 w9:World} {cs:Array Value} {v0 v9:Value} {l l':List α} (hs:StIn K M gb Wr w0 cs wr) (hrow:Own R e size M none wr v0 l)
  (hb:Below wr.heap.size wr W9) (hown:Own R e size M none w9 v9 l') (hgr:W9.grownBy w9 v0.ownBlock) :
  StIn K M gb Wr w0 (cs.setIfInBounds j v9) (w9.setCell ⟨gb,j,none⟩ v9)/\Own R e size M none (w9.setCell ⟨gb,j,none⟩ v9) v9 l':=by
 have hK:=hs.hK;have hM:=hs.hM;have H1:∀gg,gg≠gb->(w9.setCell ⟨gb,j,none⟩ v9).heap[gg]? =w9.heap[gg]? :=fun gg h=>yuZ _ _ _ _ h;have hz:=hs.z;have H2:=hb.size;have H3:=hgr.size;have H0:∀gg,gg<M->w9.heap[gg]? =wr.heap[gg]? :=fun gg h=>(hgr.block gg (by omega) (fun e=>by have:=(hrow.lt gg e.symm).1;omega)).trans (hb.block gg (by omega));refine⟨⟨hK,hM,?_,?_,fun gg h1 h2 h3=>?_,?_⟩,hown.keep hR fun gg _ h _=>H1 gg (by omega)⟩
 ·exact(Below.grow (hs.b.trans (hb.mono (by omega))) (by omega) hgr (fun r e=>by have:=(hrow.lt r e).1;omega)).setCell hK _
 ·exact yMZ _ _ j _ _ v9 ((H0 gb hM).trans hs.box)
 ·rw[H1 gg h2,H0 gg h3];exact hs.q gg h1 h2 h3
 ·simp[World.setCell];omega
theorem StIn.kz {K M gb:Nat} {Wr w0 wr:World} {cs:Array Value} (hs:StIn K M gb Wr w0 cs wr):K<=wr.heap.size:=by
 have:=hs.hK;have:=hs.hM;have:=hs.z;omega
theorem StIn.go {K M gb:Nat} {Wr w0 wr w9:World} {cs:Array Value} (hs:StIn K M gb Wr w0 cs wr) (hb:Below wr.heap.size wr w9):StIn K M gb Wr w0 cs w9:=
 ⟨hs.hK,hs.hM,hs.b.trans (hb.mono hs.kz),(hb.block gb (zaZ hs.box)).trans hs.box,fun gg h1 h2 h3=>(hb.block gg (yJZ h3 hs.z)).trans (hs.q gg h1 h2 h3),ymZ hs.z hb.size⟩
theorem StIn.first {K gb:Nat} {Wr w w0:World} {ps z kd:Int} {nm:Lx.Bytes} {vt vx vb ve:Value} (hb:Below K Wr w) (hK:K<=gb) (hbox:w.heap[gb]? =some (.cells (stC z kd nm vt vx vb ve) 69 (0,0))) (h:w.setCell ⟨gb,0,none⟩ (.int .i64 ps)=w0) :
  StIn K w0.heap.size gb Wr w0 (stC ps kd nm vt vx vb ve) w0/\∀ {v:Value} {l:List Sx.St},StRow (only w (but K none (some gb))) v l->StRow (only w0 (but K none (some gb))) v l:=by
 subst h;refine⟨⟨hK,?_,hb.setCell hK _,yMZ _ _ 0 _ _ (.int .i64 ps) hbox,fun _ _ _ _=>rfl,ybZ _⟩,fun h=>h.sub (znZ fun g hg hs=>⟨hs,yuZ _ _ _ _ fun e=>(zxZ.1 hs).2.2 (by rw[e])⟩)⟩;have:=zaZ hbox;simp[World.setCell];omega
theorem StIn.next {K M gb:Nat} {Wr w0 wr:World} {cs:Array Value} (hs:StIn K M gb Wr w0 cs wr):StIn K wr.heap.size gb Wr wr cs wr:=⟨hs.hK,yJZ hs.hM hs.z,hs.b,hs.box,fun _ _ _ _=>rfl,ybZ _⟩
theorem StRow.wide {K gb:Nat} {w w':World} {v:Value} {l:List Sx.St} (h:StRow (only w (but K none (some gb))) v l) (hq:∀gg,K<=gg->gg≠gb->gg<w.heap.size->w'.heap[gg]? =w.heap[gg]?):StRow (only w' (since K)) v l:=
 h.sub (znZ fun g hg hs=>by
  obtain⟨p1,p2,p3⟩:=zxZ.1 hs;exact⟨zmZ.2 p1,hq g p1 (fun e=>p3 (by rw[e])) hg⟩)
theorem zyeZ:(Tryz.prog.info? 69).map (fun i=>(i.zero,i.size,i.bytes))=some (some (.agg #[.int .i64 0,.int .i64 0,.string ⟨#[]⟩,.slice none 0 0,.slice none 0 0,.slice none 0 0,.slice none 0 0]),7,128):=by kernel_rfl
theorem IsSt.made {W:World} {ps k:Int} {nm:Lx.Bytes} {vt vx vb ve:Value} {t:List Sx.Ty} {x:List Sx.Ex} {b e:List Sx.St} (h1:TyRow W vt t) (h2:ExRow W vx x) (h3:StRow W vb b) (h4:StRow W ve e):IsSt W (.agg (stC ps k nm vt vx vb ve)) (.mk ps k nm t x b e):=by
 obtain⟨A,c,rfl,h5,h6⟩:=h3;obtain⟨A',c',rfl,h7,h8⟩:=h4;rw[IsSt];exact⟨vt,vx,A,c,A',c',rfl,h1,h2,h5,h6,h7,h8⟩
theorem Own.sts_since {e L:Nat} {w:World} {v:Value} {l:List Sx.St} (h:Own RSt e 7 L none w v l):StRow (only w (since L)) v l:=h.sts.sub (znZ fun g hg hs=>⟨zmZ.2 (zxZ.1 hs).1,rfl⟩)
def OwnSsOk (l:List Sx.St):Prop:=∀(v:Value) (W:World),StRow W v l->
 Calls Tryz.prog 37 #[v] W fun e W'=>∃v',e=.returned v'/\StRow (only W' (since W.heap.size)) v' l/\Below W.heap.size W W'
theorem zpaZ (l:List Sx.St) (hsz:Sx.sizeSs l<=1000000) (ih:∀s∈l,OwnSsOk s.body/\OwnSsOk s.els):OwnSsOk l:=by
 intro v W hv;have Jq:=Sx.length_sizeSs l;obtain⟨A1,c1,rfl,hca,hra⟩:=hv;have HV:=zh (show StRow W (.slice A1 l.length c1) l from⟨A1,c1,rfl,hca,hra⟩);obtain⟨k,hk⟩:=zE (l.length);rw[hk]at HV ⊢;have k0:(0:Int)<=(k:Int):=by omega
 have k1:(k:Int)<=1000000:=by omega
 obtain⟨L,hL⟩:=zE (W.heap.size);have HK:=zh hk;have Jh:=zh (show k<=1000000 by omega);have Jn:=zh hsz;have J9:=zh ih;have HL:=zh hL;clear hca hra Jq hk hsz ih hL;go_enter Tryz.func37, Tryz.ntmps37;go_wp2_with fail;go_loopg [3,4,5,6,7] k (fun i v3 v4 v5 v6 v7 wr=>∃(m:Nat) (A:Option Addr) (c:Nat),i=k-m/\v3=.slice A m c/\v4=.int .i64 (m:Nat)/\m<=k/\Own RSt 69 7 L none wr (.slice A m c) (l.take m)/\Below L W wr)
 case atStart=>exact⟨0,none,0,rfl,rfl,rfl,yxZ _,Own.nil,yqZ _ _⟩
 case round=>
  obtain⟨m,A,c,hi,rfl,rfl,hm,ho,hb⟩:=hrel;obtain⟨wo,rfl⟩:∃w,w=wr:=⟨_,rfl⟩;have HI:=zh hi;have HO:=zh ho;have J4:=zh hb;have m0:(0:Int)<=(m:Int):=(by omega);clear hi ho hb;by_cases hlt:m<k
  ·have Jm:(m:Int)<(k:Int):=(by omega);have U5:IntKind.i64.wrap ((m:Int)+1)=(m:Int)+1:=(by rw[yQZ];omega);have H8:m<l.length:=(by have:=HK.o;omega);obtain⟨g,off,At,ct,Ax,cx,Ab,cb,Ae,ce,rfl,hty,hc5⟩:=HV.o.spot m H8;rw[HL.o]at hc5;have H2:=yfZ H8;have J1:=zh (ykZ H8);have J6:=zh (show(l.take m).length=m by rw[yUZ];omega);obtain⟨p,hpe⟩:=zE (l[m]'H8);rw[hpe]at hty hc5 H2 J1;obtain⟨lm,hlm⟩:=zE (l.take m);rw[hlm]at HO J6 J1;have Jg:=Sx.sizeS_mem H2;have Jx:=Sx.sizeS_parts p;have Hp:=Sx.length_size p.t;have Jt:=Sx.length_sizeXs p.x;obtain⟨D0,d0,D1,d1,D2,d2,D3,d3,Hl,hT,hX,hB,hE⟩:=hty.agg;simp only[Value.agg.injEq,ykbZ,ygbZ,Value.slice.injEq,true_and,ymbZ]at Hl;obtain⟨⟨rfl,rfl⟩,⟨rfl,rfl⟩,⟨rfl,rfl⟩,rfl,rfl⟩:=Hl;obtain⟨tl,htl⟩:=zE (p.t.length);obtain⟨xl,hxl⟩:=zE (p.x.length);obtain⟨ps,hps⟩:=zE (p.pos);obtain⟨kd,hkd⟩:=zE (p.kind);obtain⟨nm,hnm⟩:=zE (p.name);have Hd:=zh (show tl<=1000000/\xl<=1000000/\Sx.sizeL p.t<=1000000/\Sx.sizeXs p.x<=1000000 by have:=Jn.o;omega);rw[htl]at hT;rw[hxl]at hX;rw[htl,hxl,hps,hkd,hnm]at hc5;obtain⟨K,hKK⟩:=zE (wo.heap.size);have H5:=zh hc5;have HT:=zh hT;have HX:=zh hX;have Je:=zh htl;have Ja:=zh hxl;have Jl:=zh (show p=.mk ps kd nm p.t p.x p.body p.els by cases p;subst hps hkd hnm;rfl);have J3:=zh hKK;have Jd:=zh (show L<=K by rw[<-hKK,<-HL.o];exact J4.o.size);have H0:=zh (fun X (h:Below K wo X)=>(show Below L W X from J4.o.trans (h.mono Jd.o)));have Jw:=zh (fun X (h:Below K wo X)=>(show StRow X (.slice Ab p.body.length cb) p.body from hB.below (by rw[HL.o];exact H0.o X h)));have Jp:=zh (fun X (h:Below K wo X)=>(show StRow X (.slice Ae p.els.length ce) p.els from hE.below (by rw[HL.o];exact H0.o X h)));have Jk:=zh (J9.o p H2).1;have Jj:=zh (J9.o p H2).2;have J0:=zh (show K<=wo.heap.size by rw[hKK];exact ybZ _);clear hty hc5 H2 Jg Jx Hp Jt hT hX hB hE htl hxl hps hkd hnm hKK hpe hlm;go_upto_region 5 with fail
   obtain⟨Fs,hFs⟩:∃F:List (Value->World->Value->Nat->Prop),[IsF (.slice (some ⟨g,off,none⟩) k c1),IsF (.int .i64 (m:Int)),IsF (.pointer (some ⟨g,off+m * 7,none⟩)),IsF (.pointer (some ⟨g,off+m * 7+1,none⟩)),IsF (.int .i64 kd),IsF (.slice (some ⟨g,off,none⟩) k c1),IsF (.int .i64 (m:Int)),IsF (.pointer (some ⟨g,off+m * 7,none⟩)),IsF (.pointer (some ⟨g,off+m * 7+2,none⟩)),IsF (.string ⟨nm.toArray⟩),IsF (.slice (some ⟨g,off,none⟩) k c1),IsF (.int .i64 (m:Int)),IsF (.pointer (some ⟨g,off+m * 7,none⟩)),IsF (.pointer (some ⟨g,off+m * 7+5,none⟩)),IsF (.slice Ab p.body.length cb),NewF K p.body,IsF (.slice (some ⟨g,off,none⟩) k c1),IsF (.int .i64 (m:Int)),IsF (.pointer (some ⟨g,off+m * 7,none⟩)),IsF (.pointer (some ⟨g,off+m * 7+6,none⟩)),IsF (.slice Ae p.els.length ce),NewF K p.els,NewB K kd nm p.body p.els,BoxIs,fun _ _ _ _=>True]=F:=⟨_,rfl⟩;obtain⟨F0,F1,F2,F3,F4,F5,F6,F7,F8,F9,F10,F11,F12,F13,F14,F15,F16,F17,F18,F19,F20,F21,F22,F23,F24,-⟩:=zcgZ hFs;have H4:AllStay (NewM K) Fs:=(by rw[<-hFs];repeat (first | exact .nil | refine .cons (by first | exact IsF.stays | exact NewF.stays | exact NewB.stays | exact BoxIs.stays | exact fun _ _ _ _ _ _ _ _ _=>trivial) ?_));clear hFs;refine zbcZ (by kernel_rfl) [23,24] (NewI K wo kd nm p.body p.els) (NewM K) Fs undef (by kernel_rfl) (by kernel_rfl) (by kernel_rfl) (by kernel_rfl) (by kernel_rfl) H4 (n:=25) (by kernel_rfl) ⟨Below.drewN (yqZ _ _) 1,rfl⟩ ?_ ?_
   ·repeat' first | refine OpsOk.cons ?_ ?_ | fail
    ·exact OpOk.mov rfl rfl F0 NewM.rf rfl fun ρ w r k E=>E.n 0 (by kernel_rfl)
    ·exact OpOk.mov rfl rfl F1 NewM.rf rfl fun ρ w r k E=>E.n 4 (by kernel_rfl)
    ·refine OpOk.val rfl rfl F2 NewM.rf fun ρ w r k E hI K hK=>?_;have e114:=E.e 14 0 (by kernel_rfl) F0;have e115:=E.e 15 1 (by kernel_rfl) F1;obtain⟨hg,e0,e1,e2,e3,e4,e5,e6⟩:=H5.o w (H0.o w hI.low);go_simp;exact hK
    ·refine OpOk.val rfl rfl F3 NewM.rf fun ρ w r k E hI K hK=>?_;have e116:=E.e 16 2 (by kernel_rfl) F2;obtain⟨hg,e0,e1,e2,e3,e4,e5,e6⟩:=H5.o w (H0.o w hI.low);go_simp;exact hK
    ·refine OpOk.val rfl rfl F4 NewM.rf fun ρ w r k E hI K hK=>?_;have e117:=E.e 17 3 (by kernel_rfl) F3;obtain⟨hg,e0,e1,e2,e3,e4,e5,e6⟩:=H5.o w (H0.o w hI.low);go_simp;exact hK
    ·exact OpOk.mov rfl rfl F5 NewM.rf rfl fun ρ w r k E=>E.n 0 (by kernel_rfl)
    ·exact OpOk.mov rfl rfl F6 NewM.rf rfl fun ρ w r k E=>E.n 4 (by kernel_rfl)
    ·refine OpOk.val rfl rfl F7 NewM.rf fun ρ w r k E hI K hK=>?_;have e119:=E.e 19 5 (by kernel_rfl) F5;have e120:=E.e 20 6 (by kernel_rfl) F6;obtain⟨hg,e0,e1,e2,e3,e4,e5,e6⟩:=H5.o w (H0.o w hI.low);go_simp;exact hK
    ·refine OpOk.val rfl rfl F8 NewM.rf fun ρ w r k E hI K hK=>?_;have e121:=E.e 21 7 (by kernel_rfl) F7;obtain⟨hg,e0,e1,e2,e3,e4,e5,e6⟩:=H5.o w (H0.o w hI.low);go_simp;exact hK
    ·refine OpOk.val rfl rfl F9 NewM.rf fun ρ w r k E hI K hK=>?_;have e122:=E.e 22 8 (by kernel_rfl) F8;obtain⟨hg,e0,e1,e2,e3,e4,e5,e6⟩:=H5.o w (H0.o w hI.low);go_simp;exact hK
    ·exact OpOk.mov rfl rfl F10 NewM.rf rfl fun ρ w r k E=>E.n 0 (by kernel_rfl)
    ·exact OpOk.mov rfl rfl F11 NewM.rf rfl fun ρ w r k E=>E.n 4 (by kernel_rfl)
    ·refine OpOk.val rfl rfl F12 NewM.rf fun ρ w r k E hI K hK=>?_;have e124:=E.e 24 10 (by kernel_rfl) F10;have e125:=E.e 25 11 (by kernel_rfl) F11;obtain⟨hg,e0,e1,e2,e3,e4,e5,e6⟩:=H5.o w (H0.o w hI.low);go_simp;exact hK
    ·refine OpOk.val rfl rfl F13 NewM.rf fun ρ w r k E hI K hK=>?_;have e126:=E.e 26 12 (by kernel_rfl) F12;obtain⟨hg,e0,e1,e2,e3,e4,e5,e6⟩:=H5.o w (H0.o w hI.low);go_simp;exact hK
    ·refine OpOk.val rfl rfl F14 NewM.rf fun ρ w r k E hI K hK=>?_;have e127:=E.e 27 13 (by kernel_rfl) F13;obtain⟨hg,e0,e1,e2,e3,e4,e5,e6⟩:=H5.o w (H0.o w hI.low);go_simp;exact hK
    ·exact OpOk.ncall J0.o rfl rfl F15 rfl Tryz.func37 (by kernel_rfl) rfl (fun ρ w r k E=>by simp only[yIZ,yPZ,yRZ,E.e 28 14 (by kernel_rfl) F14]) fun w hb=>Jk.o _ w (Jw.o w hb)
    ·exact OpOk.mov rfl rfl F16 NewM.rf rfl fun ρ w r k E=>E.n 0 (by kernel_rfl)
    ·exact OpOk.mov rfl rfl F17 NewM.rf rfl fun ρ w r k E=>E.n 4 (by kernel_rfl)
    ·refine OpOk.val rfl rfl F18 NewM.rf fun ρ w r k E hI K hK=>?_;have e130:=E.e 30 16 (by kernel_rfl) F16;have e131:=E.e 31 17 (by kernel_rfl) F17;obtain⟨hg,e0,e1,e2,e3,e4,e5,e6⟩:=H5.o w (H0.o w hI.low);go_simp;exact hK
    ·refine OpOk.val rfl rfl F19 NewM.rf fun ρ w r k E hI K hK=>?_;have e132:=E.e 32 18 (by kernel_rfl) F18;obtain⟨hg,e0,e1,e2,e3,e4,e5,e6⟩:=H5.o w (H0.o w hI.low);go_simp;exact hK
    ·refine OpOk.val rfl rfl F20 NewM.rf fun ρ w r k E hI K hK=>?_;have e133:=E.e 33 19 (by kernel_rfl) F19;obtain⟨hg,e0,e1,e2,e3,e4,e5,e6⟩:=H5.o w (H0.o w hI.low);go_simp;exact hK
    ·exact OpOk.ncall J0.o rfl rfl F21 rfl Tryz.func37 (by kernel_rfl) rfl (fun ρ w r k E=>by simp only[yIZ,yPZ,yRZ,E.e 34 20 (by kernel_rfl) F20]) fun w hb=>Jj.o _ w (Jp.o w hb)
    ·refine OpOk.nbuild (d1:=29) (d2:=35) rfl rfl F22 F15 (by kernel_rfl) F21 (by kernel_rfl) fun ρ w r k E B1 B2 n1 d1 n2 d2 g1 g2 C hC=>?_;have e118:=E.e 18 4 (by kernel_rfl) F4;have e123:=E.e 23 9 (by kernel_rfl) F9;go_simp;exact hC
    ·refine OpOk.nalloc J0.o (by decide) rfl F23 fun ρ w C hC=>?_;go_simp;exact hC
    ·exact OpOk.nstore (i:=23) (d1:=5) (d2:=36) (q2:=22) (by decide) rfl F24 F23 (by kernel_rfl) F22 (by kernel_rfl) rfl
    ·exact .nil
   ·intro uq wq rq hI hF;have f23:uq 23=rq:=(zbqZ F23 (hF 23 (by decide))).2;obtain⟨hbq,gb,vb,ve,hrq,hgb,Hb,Jf,Hl⟩:=hI;rw[hrq]at f23;simp only[yyZ,fillAct,Act.put,yoZ,yzZ,yAZ,f23];clear hF f23 hrq F0 F1 F2 F3 F4 F5 F6 F7 F8 F9 F10 F11 F12 F13 F14 F15 F16 F17 F18 F19 F20 F21 F22 F23 F24 H4;have Hb:wq.heap[gb]? =some (.cells #[.int .i64 0,.int .i64 kd,.string ⟨nm.toArray⟩,.slice none 0 0,.slice none 0 0,vb,ve] 69 (0,0)):=Hb;have Jo:=zaZ Hb;obtain⟨x0,x1,x2,x3,x4,x5,x6⟩:=zbZ Hb;obtain⟨f0,f1,f2,f3,f4,f5,f6⟩:=zcsZ Hb;obtain⟨hg,e0,e1,e2,e3,e4,e5,e6⟩:=H5.o wq (H0.o wq hbq);have Jc:=zh (fun w6 (h:wq.setCell ⟨gb,0,none⟩ (.int .i64 ps)=w6)=>StIn.first (z:=0) (vt:=.slice none 0 0) (vx:=.slice none 0 0) hbq hgb Hb h);have Hy:=zh (And.intro Jf Hl);clear Hb hbq Jf Hl;go_upto_region 7 with fail
    obtain⟨w6,hw6⟩:=zE (wq.setCell ⟨gb,0,none⟩ (.int .i64 ps));rw[hw6];obtain⟨hs6,Hu⟩:=Jc.o w6 hw6;have Hg:=zh (And.intro (Hu Hy.o.1) (Hu Hy.o.2));obtain⟨M,hM⟩:=zE (w6.heap.size);rw[hM]at hs6;have J8:=zh hs6;have HM:=zh hM;clear hs6 Hu hw6 hM Jc Hy Jo x0 x1 x2 x3 x4 x5 x6 f0 f1 f2 f3 f4 f5 f6 hg e0 e1 e2 e3 e4 e5 e6 hgb;obtain⟨hg,e0,e1,e2,e3,e4,e5,e6⟩:=H5.o w6 (H0.o w6 J8.o.b);go_wp2_with fail;clear hg e0 e1 e2 e3 e4 e5 e6;go_loopg [6] tl (fun i v wr=>∃(m2:Nat) (A2:Option Addr) (c2:Nat),i=tl-m2/\v=.int .i64 (m2:Nat)/\m2<=tl/\StIn K M gb wo w6 (stC ps kd nm (.slice A2 m2 c2) (.slice none 0 0) vb ve) wr/\Own RTy 26 5 M none wr (.slice A2 m2 c2) (p.t.take m2))
    case atStart=>exact⟨0,none,0,rfl,rfl,yxZ _,J8.o,Own.nil⟩
    case round=>
     obtain⟨m2,A2,c2,hi,rfl,hm2,hs,ho⟩:=hrel;obtain⟨w7,rfl⟩:∃w,w=wr:=⟨_,rfl⟩;have Hr:=zh hi;have H1:=zh hs;have Hf:=zh ho;have n0:(0:Int)<=(m2:Int):=(by omega);have n1:(m2:Int)<=1000000:=(by have:=Hd.o;omega);clear hi hs ho;obtain⟨hg,e0,e1,e2,e3,e4,e5,e6⟩:=H5.o w7 (H0.o w7 H1.o.b);by_cases hlt2:m2<tl
     ·have Hh:(m2:Int)<(tl:Int):=(by omega);have Hz:IntKind.i64.wrap ((m2:Int)+1)=(m2:Int)+1:=(by rw[yQZ];omega);have H8:m2<p.t.length:=(by have:=Je.o;omega);clear hg e0 e1 e2 e3 e4 e5 e6;obtain⟨g2,off2,An1,cn1,Ae1,ce1,Aq,cq,rfl,hty,hct⟩:=HT.o.spot m2 H8;rw[HL.o]at hct;have H9:=zh (ykZ H8);have Hc:=zh (show(p.t.take m2).length=m2 by rw[yUZ];omega);have H2:=yfZ H8;obtain⟨t,hte⟩:=zE (p.t[m2]'H8);rw[hte]at hct hty H2 H9;have Ht:=zh (show Sx.size t<=1000000 by have:=Sx.size_mem H2;have:=Hd.o;omega);have Hx:=zh (fun X (hX:Below w7.heap.size w7 X)=>zjeZ 1000000 t Ht.o (ybZ _) _ X (IsTy.below (by rw[HL.o];exact H0.o X (H1.o.go hX).b) _ _ hty));have Ho:=zh hct;have Hk:=zh hlt2;have Hj:=zh (fun b (e:(Value.slice A2 m2 c2).ownBlock=some b)=>Own.lt Hf.o b e);obtain⟨lm2,hlm2⟩:=zE (p.t.take m2);rw[hlm2]at Hf Hc H9;clear H2 hte hty hct hlm2 H8;obtain⟨hg,e0,e1,e2,e3,e4,e5,e6⟩:=H5.o w7 (H0.o w7 H1.o.b);go_upto_region 10 with fail
      clear hg e0 e1 e2 e3 e4 e5 e6;obtain⟨Fs,⟨F0,F1,F2,F3,F4,F5,F6,F7,F8,F9,F10,F11,F12,F13,F14,-⟩,H4⟩:=zehZ [IsF (.pointer (some ⟨gb,3,none⟩)),IsF (.slice A2 m2 c2),IsF (.slice (some ⟨g,off,none⟩) k c1),IsF (.int .i64 (m:Int)),IsF (.pointer (some ⟨g,off+m * 7,none⟩)),IsF (.pointer (some ⟨g,off+m * 7+3,none⟩)),IsF (.slice (some ⟨g2,off2,none⟩) tl ct),IsF (.int .i64 (m2:Int)),IsF (.pointer (some ⟨g2,off2+m2 * 5,none⟩)),IsF (.agg #[.int .i64 t.kind,.string ⟨t.name.toArray⟩,.slice An1 t.names.length cn1,.slice Ae1 t.embeds.length ce1,.slice Aq t.parts.length cq]),TreeF IsTy w7.heap.size t,BoxF RTy 26 5 w7.heap.size t,AppF 0,IsF (.pointer (some ⟨gb,3,none⟩)),Early fun _ _=>True] (by repeat' first | exact .nil | refine .cons (by first | exact IsF.stays | exact TreeF.stays (fun W W2 x hs h=>IsTy.sub hs _ _ h) | exact BoxF.stays RTy.sub | exact AppF.staysP | exact Early.stays fun _ _ _ _ h=>h) ?_);have He:=zh (show w7.heap[gb]? =some (.cells #[.int .i64 ps,.int .i64 kd,.string ⟨nm.toArray⟩,.slice A2 m2 c2,.slice none 0 0,vb,ve] 69 (0,0))from H1.o.box);refine zbcZ (by kernel_rfl) [12,14] (PushI RTy 26 5 M none w7 (.slice A2 m2 c2) (lm2) t gb 3) PushM Fs undef (by kernel_rfl) (by kernel_rfl) (by kernel_rfl) (by kernel_rfl) (by kernel_rfl) H4 (n:=15) (by kernel_rfl) (show Below _ _ _ from Below.drewN (yqZ _ _) 1) ?_ ?_
      ·repeat' first | refine OpsOk.cons ?_ ?_ | fail
       ·exact .pf flS (zaZ He.o) F0 (.n 5)
       ·exact .pl ldA [1] He.o F1 (.f 55 F0)
       ·exact .m F2 (.n 0)
       ·exact .m F3 (.n 4)
       ·refine OpOk.val0 [11,10,9,8,6,5,4] (by kernel_rfl) rfl rfl F4 fun ρ wq r E hbq K hK=>?_;have e157:=E.e 57 2 (by kernel_rfl) F2;have e158:=E.e 58 3 (by kernel_rfl) F3;obtain⟨hg,e0,e1,e2,e3,e4,e5,e6⟩:=H5.o wq (H0.o wq (H1.o.go hbq).b);go_simp;exact hK
       ·refine OpOk.val0 [11,10,9,8,6,5] (by kernel_rfl) rfl rfl F5 fun ρ wq r E hbq K hK=>?_;have e159:=E.e 59 4 (by kernel_rfl) F4;obtain⟨hg,e0,e1,e2,e3,e4,e5,e6⟩:=H5.o wq (H0.o wq (H1.o.go hbq).b);go_simp;exact hK
       ·refine OpOk.val0 [11,10,9,8,6] (by kernel_rfl) rfl rfl F6 fun ρ wq r E hbq K hK=>?_;have e160:=E.e 60 5 (by kernel_rfl) F5;obtain⟨hg,e0,e1,e2,e3,e4,e5,e6⟩:=H5.o wq (H0.o wq (H1.o.go hbq).b);go_simp;exact hK
       ·exact .m F7 (.n 6)
       ·refine OpOk.val0 [11,10,9,8] (by kernel_rfl) rfl rfl F8 fun ρ wq r E hbq K hK=>?_;have e161:=E.e 61 6 (by kernel_rfl) F6;have e162:=E.e 62 7 (by kernel_rfl) F7;obtain⟨hg,c0,c1,c2,c3,c4⟩:=Ho.o wq (H0.o wq (H1.o.go hbq).b);go_simp;exact hK
       ·refine OpOk.val0 [11,10,9] (by kernel_rfl) rfl rfl F9 fun ρ wq r E hbq K hK=>?_;have e163:=E.e 63 8 (by kernel_rfl) F8;obtain⟨hg,c0,c1,c2,c3,c4⟩:=Ho.o wq (H0.o wq (H1.o.go hbq).b);go_simp;exact hK
       ·exact .pc [11,10] F10 (fun W W2 x hs h=>IsTy.sub hs _ _ h) Tryz.func26 (.f 64 F9) fun w hb=>Hx.o w hb
       ·exact .pb [11] RTy.sub F11 F10 65 rdT fun ρ w K cs h1 h2 h3=>bsT rfl h1 h2 h3
       ·exact .pp RTy.sub 56 66 F12 F1 F11 Hf.o Tryz.underlying24 zlhZ H1.o.z (by have:=Hc.o;have:=Hd.o;have:=Hk.o;omega)
       ·exact .pf flS (zaZ He.o) F13 (.n 5)
       ·exact .ps (fun ho=>stTX (.inl ho)) (zaZ He.o) (fun e=>by have:=(Hj.o _ e).1;have:=H1.o.hM;omega) He.o rfl F12 F14 F13 68 67
       ·exact .nil
      ·intro uq wq rq hI hF;obtain⟨A9,c9,W9,w9,rfl,hb9,H3,H7,rfl⟩:=hI;simp only[yyZ,fillAct,Act.put,yoZ,yzZ,yAZ];clear hF He F0 F1 F2 F3 F4 F5 F6 F7 F8 F9 F10 F11 F12 F13 F14 H4;have H6:=StIn.push (j:=3) RTy.sub H1.o Hf.o hb9 H3 H7;rw[Hc.o]at H6 ⊢;obtain⟨W10,hW10⟩:=zE (w9.setCell ⟨gb,3,none⟩ (.slice A9 (m2+1) c9));rw[hW10]at H6 ⊢;rw[<-H9.o]at H6;have Hv:=zh (show StIn K M gb wo w6 (stC ps kd nm (.slice A9 (m2+1) c9) (.slice none 0 0) vb ve) W10/\_ from H6);clear hW10 H6 H3 H7 hb9;go_wp2_with fail;go_roundg (tl-(m2+1))
       case measure=>have:=Hr.o;omega
       case rel=>exact⟨m2+1,A9,c9,rfl,by simp,Hk.o,Hv.o⟩
     ·have Hh:¬(m2:Int)<(tl:Int):=(by omega);obtain rfl:tl=m2:=(by omega);obtain⟨AT,rfl⟩:∃q,q=A2:=⟨A2,rfl⟩;obtain⟨cT,rfl⟩:∃q,q=c2:=⟨c2,rfl⟩;have Hn:=yjZ (show p.t.length<=tl by have:=Je.o;omega);have Ha:=Hf.o;rw[Hn]at Ha;have U2:=zh Ha.tys_since;have Hi:=H1;go_wp2_with fail;clear Hn Ha hg e0 e1 e2 e3 e4 e5 e6 H1 Hr;obtain⟨M2,hM2⟩:=zE (w7.heap.size);have Hw:=Hi.o.next;rw[hM2]at Hw;have Jy:=zh Hw;have J7:=zh hM2;clear Hw hM2;go_loopg [7] xl (fun i v wr=>∃(m2:Nat) (A2:Option Addr) (c2:Nat),i=xl-m2/\v=.int .i64 (m2:Nat)/\m2<=xl/\StIn K M2 gb wo w7 (stC ps kd nm (.slice AT tl cT) (.slice A2 m2 c2) vb ve) wr/\Own REx 39 7 M2 none wr (.slice A2 m2 c2) (p.x.take m2))
      case atStart=>exact⟨0,none,0,rfl,rfl,yxZ _,Jy.o,Own.nil⟩
      case round=>
       obtain⟨m2,A2,c2,hi,rfl,hm2,hs,ho⟩:=hrel;obtain⟨w8,rfl⟩:∃w,w=wr:=⟨_,rfl⟩;have Hr:=zh hi;have H1:=zh hs;have Hf:=zh ho;have n0:(0:Int)<=(m2:Int):=(by omega);have n1:(m2:Int)<=1000000:=(by have:=Hd.o;omega);clear hi hs ho;obtain⟨hg,e0,e1,e2,e3,e4,e5,e6⟩:=H5.o w8 (H0.o w8 H1.o.b);by_cases hlt2:m2<xl
       ·have Hh:(m2:Int)<(xl:Int):=(by omega);have Hz:IntKind.i64.wrap ((m2:Int)+1)=(m2:Int)+1:=(by rw[yQZ];omega);have H8:m2<p.x.length:=(by have:=Ja.o;omega);clear hg e0 e1 e2 e3 e4 e5 e6;obtain⟨g2,off2,Atp,ctp,Anp,cnp,App,cpp,rfl,hty,hct⟩:=HX.o.spot m2 H8;rw[HL.o]at hct;have H9:=zh (ykZ H8);have Hc:=zh (show(p.x.take m2).length=m2 by rw[yUZ];omega);have H2:=yfZ H8;obtain⟨t,hte⟩:=zE (p.x[m2]'H8);rw[hte]at hct hty H2 H9;have Ht:=zh (show Sx.sizeX t<=1000000 by have:=Sx.sizeX_mem H2;have:=Hd.o;omega);have Hx:=zh (fun X (hX:Below w8.heap.size w8 X)=>zmiZ 1000000 t Ht.o (ybZ _) _ X (IsEx.below (by rw[HL.o];exact H0.o X (H1.o.go hX).b) _ _ hty));have Ho:=zh hct;have Hk:=zh hlt2;have Hj:=zh (fun b (e:(Value.slice A2 m2 c2).ownBlock=some b)=>Own.lt Hf.o b e);obtain⟨lm2,hlm2⟩:=zE (p.x.take m2);rw[hlm2]at Hf Hc H9;clear H2 hte hty hct hlm2 H8;obtain⟨hg,e0,e1,e2,e3,e4,e5,e6⟩:=H5.o w8 (H0.o w8 H1.o.b);go_upto_region 14 with fail
        clear hg e0 e1 e2 e3 e4 e5 e6;obtain⟨Fs,⟨F0,F1,F2,F3,F4,F5,F6,F7,F8,F9,F10,F11,F12,F13,F14,-⟩,H4⟩:=zehZ [IsF (.pointer (some ⟨gb,4,none⟩)),IsF (.slice A2 m2 c2),IsF (.slice (some ⟨g,off,none⟩) k c1),IsF (.int .i64 (m:Int)),IsF (.pointer (some ⟨g,off+m * 7,none⟩)),IsF (.pointer (some ⟨g,off+m * 7+4,none⟩)),IsF (.slice (some ⟨g2,off2,none⟩) xl cx),IsF (.int .i64 (m2:Int)),IsF (.pointer (some ⟨g2,off2+m2 * 7,none⟩)),IsF (.agg #[.int .i64 t.pos,.int .i64 t.kind,.int .i64 t.n,.string ⟨t.s.toArray⟩,.slice Atp t.t.length ctp,.slice Anp t.names.length cnp,.slice App t.parts.length cpp]),TreeF IsEx w8.heap.size t,BoxF REx 39 7 w8.heap.size t,AppF 0,IsF (.pointer (some ⟨gb,4,none⟩)),Early fun _ _=>True] (by repeat' first | exact .nil | refine .cons (by first | exact IsF.stays | exact TreeF.stays (fun W W2 x hs h=>IsEx.sub hs _ _ h) | exact BoxF.stays REx.sub | exact AppF.staysP | exact Early.stays fun _ _ _ _ h=>h) ?_);have He:=zh (show w8.heap[gb]? =some (.cells #[.int .i64 ps,.int .i64 kd,.string ⟨nm.toArray⟩,.slice AT tl cT,.slice A2 m2 c2,vb,ve] 69 (0,0))from H1.o.box);refine zbcZ (by kernel_rfl) [12,14] (PushI REx 39 7 M2 none w8 (.slice A2 m2 c2) (lm2) t gb 4) PushM Fs undef (by kernel_rfl) (by kernel_rfl) (by kernel_rfl) (by kernel_rfl) (by kernel_rfl) H4 (n:=15) (by kernel_rfl) (show Below _ _ _ from Below.drewN (yqZ _ _) 1) ?_ ?_
        ·repeat' first | refine OpsOk.cons ?_ ?_ | fail
         ·exact .pf flS (zaZ He.o) F0 (.n 5)
         ·exact .pl ldA [1] He.o F1 (.f 79 F0)
         ·exact .m F2 (.n 0)
         ·exact .m F3 (.n 4)
         ·refine OpOk.val0 [11,10,9,8,6,5,4] (by kernel_rfl) rfl rfl F4 fun ρ wq r E hbq K hK=>?_;have e181:=E.e 81 2 (by kernel_rfl) F2;have e182:=E.e 82 3 (by kernel_rfl) F3;obtain⟨hg,e0,e1,e2,e3,e4,e5,e6⟩:=H5.o wq (H0.o wq (H1.o.go hbq).b);go_simp;exact hK
         ·refine OpOk.val0 [11,10,9,8,6,5] (by kernel_rfl) rfl rfl F5 fun ρ wq r E hbq K hK=>?_;have e183:=E.e 83 4 (by kernel_rfl) F4;obtain⟨hg,e0,e1,e2,e3,e4,e5,e6⟩:=H5.o wq (H0.o wq (H1.o.go hbq).b);go_simp;exact hK
         ·refine OpOk.val0 [11,10,9,8,6] (by kernel_rfl) rfl rfl F6 fun ρ wq r E hbq K hK=>?_;have e184:=E.e 84 5 (by kernel_rfl) F5;obtain⟨hg,e0,e1,e2,e3,e4,e5,e6⟩:=H5.o wq (H0.o wq (H1.o.go hbq).b);go_simp;exact hK
         ·exact .m F7 (.n 7)
         ·refine OpOk.val0 [11,10,9,8] (by kernel_rfl) rfl rfl F8 fun ρ wq r E hbq K hK=>?_;have e185:=E.e 85 6 (by kernel_rfl) F6;have e186:=E.e 86 7 (by kernel_rfl) F7;obtain⟨hg,c0,c1,c2,c3,c4,c5,c6⟩:=Ho.o wq (H0.o wq (H1.o.go hbq).b);go_simp;exact hK
         ·refine OpOk.val0 [11,10,9] (by kernel_rfl) rfl rfl F9 fun ρ wq r E hbq K hK=>?_;have e187:=E.e 87 8 (by kernel_rfl) F8;obtain⟨hg,c0,c1,c2,c3,c4,c5,c6⟩:=Ho.o wq (H0.o wq (H1.o.go hbq).b);go_simp;exact hK
         ·exact .pc [11,10] F10 (fun W W2 x hs h=>IsEx.sub hs _ _ h) Tryz.func32 (.f 88 F9) fun w hb=>Hx.o w hb
         ·exact .pb [11] REx.sub F11 F10 89 rdE fun ρ w K cs h1 h2 h3=>bsE rfl h1 h2 h3
         ·exact .pp REx.sub 80 90 F12 F1 F11 Hf.o Tryz.underlying37 zrkZ H1.o.z (by have:=Hc.o;have:=Hd.o;have:=Hk.o;omega)
         ·exact .pf flS (zaZ He.o) F13 (.n 5)
         ·exact .ps (fun ho=>stTX (.inr ho)) (zaZ He.o) (fun e=>by have:=(Hj.o _ e).1;have:=H1.o.hM;omega) He.o rfl F12 F14 F13 92 91
         ·exact .nil
        ·intro uq wq rq hI hF;obtain⟨A9,c9,W9,w9,rfl,hb9,H3,H7,rfl⟩:=hI;simp only[yyZ,fillAct,Act.put,yoZ,yzZ,yAZ];clear hF He F0 F1 F2 F3 F4 F5 F6 F7 F8 F9 F10 F11 F12 F13 F14 H4;have H6:=StIn.push (j:=4) REx.sub H1.o Hf.o hb9 H3 H7;rw[Hc.o]at H6 ⊢;obtain⟨W10,hW10⟩:=zE (w9.setCell ⟨gb,4,none⟩ (.slice A9 (m2+1) c9));rw[hW10]at H6 ⊢;rw[<-H9.o]at H6;have Hv:=zh (show StIn K M2 gb wo w7 (stC ps kd nm (.slice AT tl cT) (.slice A9 (m2+1) c9) vb ve) W10/\_ from H6);clear hW10 H6 H3 H7 hb9;go_wp2_with fail;go_roundg (xl-(m2+1))
         case measure=>have:=Hr.o;omega
         case rel=>exact⟨m2+1,A9,c9,rfl,by simp,Hk.o,Hv.o⟩
       ·have Hh:¬(m2:Int)<(xl:Int):=(by omega);obtain rfl:xl=m2:=(by omega);have Hn:=yjZ (show p.x.length<=xl by have:=Ja.o;omega);have Ha:=Hf.o;rw[Hn]at Ha;have J2:=H1.o.b;have hq:∀gg,K<=gg->gg≠gb->gg<M->w8.heap[gg]? =w6.heap[gg]? :=fun gg h1 h2 h3=>(by have:=Hi.o.z;have:=J7.o;exact(H1.o.q gg h1 h2 (by omega)).trans (Hi.o.q gg h1 h2 h3));have Hp:IsSt (only w8 (since K)) (.agg (stC ps kd nm (.slice AT tl cT) (.slice A2 xl c2) vb ve)) p:=by
         rw[Jl.o];have hKM:K<=M:=(by have:=Hi.o.hK;have:=Hi.o.hM;omega);have hKM2:K<=M2:=(by have:=H1.o.hK;have:=H1.o.hM;omega);refine IsSt.made (U2.o.sub (znZ fun gg hg hs=>?_)) (Ha.exs_since.sub (znZ fun gg hg hs=>?_)) (Hg.o.1.wide fun gg h1 h2 h3=>hq gg h1 h2 (by rw[<-HM.o];exact h3)) (Hg.o.2.wide fun gg h1 h2 h3=>hq gg h1 h2 (by rw[<-HM.o];exact h3))
         ·have h1:=zmZ.1 hs;have:=Hi.o.hM;exact⟨zmZ.2 (by omega),H1.o.q gg (by omega) (by omega) (by rw[<-J7.o];exact hg)⟩
         ·have h1:=zmZ.1 hs;exact⟨zmZ.2 (by omega),rfl⟩
        have U3:=zh Hp;obtain⟨x0,x1,x2,x3,x4,x5,x6⟩:=zbZ (show w8.heap[gb]? =some (.cells #[.int .i64 ps,.int .i64 kd,.string ⟨nm.toArray⟩,.slice AT tl cT,.slice A2 xl c2,vb,ve] 69 (0,0))from H1.o.box);have U4:=zaZ H1.o.box;have Jr:=zh (HO.o.go RSt.sub (by rw[J3.o];exact J2));have Jv:=zh (show vb.oneCell'=true/\ve.oneCell'=true from⟨by obtain⟨_,_,e,-⟩:=id Hg.o.1;rw[e];rfl,by obtain⟨_,_,e,-⟩:=id Hg.o.2;rw[e];rfl⟩);clear Hn Ha Hp hq;have Ju:=zh J2;clear J2;have Hj:=zh (fun b (e:(Value.slice A m c).ownBlock=some b)=>Own.lt HO.o b e);obtain⟨wa,Hq⟩:=zE (w8.alloc (.cells #[.int .i64 ps,.int .i64 kd,.string ⟨nm.toArray⟩,.slice AT tl cT,.slice A2 xl c2,vb,ve] 69));obtain⟨Na,hNa⟩:=zE (w8.heap.size);have Hs:Below w8.heap.size w8 wa:=(by rw[<-Hq];exact(yqZ _ _).alloc (ybZ _) _);have Js:=zh (show wa.heap[Na]? =some (.cells #[.int .i64 ps,.int .i64 kd,.string ⟨nm.toArray⟩,.slice AT tl cT,.slice A2 xl c2,vb,ve] 69 (0,0))by rw[<-Hq,<-hNa];exact ydZ w8 _);have J5:=zh (show Below K wo wa from Ju.o.trans (Hs.mono H1.o.kz));have Jz:=zh (Jr.o.go RSt.sub Hs);have Ji:=zh (IsSt.sub (Sub.since_below (B:=K) Hs) _ _ U3.o);have Jb:=zh (And.intro Hq hNa);clear Hq hNa Hs;go_wp2_with (at_builtin;rw[Jb.o.1,Jb.o.2];refine zmoZ RSt.sub rfl _ _ 60 rfl Jz.o J6.o Tryz.underlying60 zyeZ rfl (by decide) rfl rfl rfl Js.o rfl (by simp[Value.oneCell'];exact Jv.o) ⟨_,_,_,_,_,_,_,rfl,Ji.o⟩ Jd.o (by have:=J5.o.size;rw[J3.o]at this;exact this) (fun b e=>nomatch e) (fun b e=>by rw[<-J3.o];exact(Hj.o b e).2) (by have:=Jh.o;omega) (by omega) ?_;intro A9 c9 w9 H3 H7);have U0:=zh H3;have U1:=zh (Below.grow (H0.o wa J5.o) (by have:=(H0.o wa J5.o).size;rw[HL.o]at this;exact this) H7 fun r e=>(Hj.o r e).1);clear H3 H7;go_wp2_with fail;go_roundg (k-(m+1))
        case measure=>have:=HI.o;omega
        case rel=>exact⟨m+1,A9,c9,rfl,rfl,by simp,hlt,by rw[J1.o];exact U0.o,U1.o⟩
  ·have Jm:¬(m:Int)<(k:Int):=(by omega);have Hm:l.take m=l:=yjZ (by have:=HK.o;omega);obtain rfl:m=l.length:=(by have:=HK.o;omega);rw[Hm]at HO;go_wp2_with fail;go_ret;rw[HL.o];exact⟨_,rfl,HO.o.sts_since,J4.o⟩
theorem zguZ:∀(n:Nat) (l:List Sx.St),Sx.sizeSs l<n->Sx.sizeSs l<=1000000->OwnSsOk l
 | 0,l,h,_=>by omega
 | n+1,l,h,h1=>zpaZ l h1 fun s hs=>by have:=Sx.sizeS_mem hs;have:=Sx.sizeS_parts s;exact⟨zguZ n s.body (by omega) (by omega),zguZ n s.els (by omega) (by omega)⟩
end Go.Proofs.YtdncljdfmdgdaaaGreatDoor
