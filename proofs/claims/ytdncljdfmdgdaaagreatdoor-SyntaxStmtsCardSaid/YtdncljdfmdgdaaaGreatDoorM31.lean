/-
  The walks of rightStmt, rightStmts.
-/
import Derived.Test.YtdncljdfmdgdaaaGreatDoorM30
set_option linter.unusedSimpArgs false
set_option linter.unusedVariables false
set_option maxRecDepth 100000
set_option maxHeartbeats 16000000
namespace Go.Proofs.YtdncljdfmdgdaaaGreatDoor
open Go.RowKit Go.Shelf Go.WideMaps
structure Held1 (L:Nat) (W:World) (cs:Array Value) (t:TypeId) (w:World):Prop where
 b:Below L W w
 b1:w.heap[L]? =some (.cells cs t (0,0))
theorem Held1.go {L:Nat} {W w w':World} {cs:Array Value} {t:TypeId} (h:Held1 L W cs t w) (hb:Below w.heap.size w w'):Held1 L W cs t w':=
 ⟨h.b.trans (hb.mono (yYZ (zaZ h.b1))),(hb.block _ (zaZ h.b1)).trans h.b1⟩
def RightSOk (d:Nat) (s:Sx.St):Prop:=∀(v:Value) (W:World),GS W->NG<=W.heap.size->IsSt W v s->Sx.sizeS s<=1000000->
 Calls Tryz.prog 120 #[v,.int .i64 (d:Nat)] W fun e W'=>e=.returned (.bool (Sx.rightS NM d s))/\Below W.heap.size W W'
def RightSsOk (d:Nat) (l:List Sx.St):Prop:=∀(v:Value) (W:World),GS W->NG<=W.heap.size->StRow W v l->Sx.sizeSs l<=1000000->
 Calls Tryz.prog 65 #[v,.int .i64 (d:Nat)] W fun e W'=>e=.returned (.bool (Sx.rightSs NM d l))/\Below W.heap.size W W'
theorem Sx.rightSs_snoc (N:Sx.Names) (d:Nat):∀(l:List Sx.St) (x:Sx.St),Sx.rightSs N d (l++[x])=(Sx.rightSs N d l&&Sx.rightS N d x)
 | [],x=>by simp[Sx.rightSs]
 | y::l,x=>by rw[yHZ,Sx.rightSs,Sx.rightSs,Sx.rightSs_snoc N d l x];simp[Bool.and_assoc]
theorem Sx.rightSs_pre (N:Sx.Names) (d:Nat):∀(l m:List Sx.St),Sx.rightSs N d l=false->Sx.rightSs N d (l++m)=false
 | [],m,h=>by simp[Sx.rightSs]at h
 | y::l,m,h=>by
  rw[yHZ,Sx.rightSs];rw[Sx.rightSs]at h
  cases hy:Sx.rightS N d y with
  | false=>rfl
  | true=>rw[hy]at h;rw[Sx.rightSs_pre N d l m (by simpa using h)];rfl
theorem zfiZ (d:Nat) (hd:d<=64) (l:List Sx.St) (ih:∀s∈l,RightSOk d s):RightSsOk d l:=by
 intro v W hG hN Hi Hg;have Hk:=Sx.length_sizeSs l;obtain⟨A,c,rfl,hcap,hrow⟩:=Hi;have ht:StRow W (.slice A l.length c) l:=⟨A,c,rfl,hcap,hrow⟩;obtain⟨k,hk⟩:=zE (l.length);rw[hk]at ht ⊢;have Hm:(k:Int)<=1000000:=by omega
 have Hn:(0:Int)<=(k:Int):=by omega
 obtain⟨e,he⟩:∃e:Int,(d:Int)=e:=⟨_,rfl⟩;rw[he];have HK:=zh hk;have HP:=zh ht;have Hl:=zh ih;have HG:=zh hG;have HN:=zh hN;have HE:=zh he;have HZ:=zh Hg;obtain⟨L,hL⟩:=zE (W.heap.size);have HL:=zh hL;clear hG hN ht hk ih he Hk hcap hrow hL Hg;go_enter Tryz.func65, Tryz.ntmps65;go_wp2_with fail;go_loopg [9] k (fun i v wr=>∃(m:Nat),i=k-m/\v=.int .i64 (m:Int)/\m<=k/\Below L W wr/\Sx.rightSs NM d (l.take m)=true)
 case atStart=>exact⟨0,rfl,rfl,yxZ _,yqZ _ _,by simp[Sx.rightSs]⟩
 case round=>
  obtain⟨m,hi,rfl,hmk,hwr,hall⟩:=hrel;have HI:=zh hi;have HW:=zh hwr;have H7:=zh hall;have hLs:L<=wr.heap.size:=(by have:=hwr.size;have:=HL.o;omega);have m0:(0:Int)<=(m:Int):=(by omega);clear hi hwr hall;by_cases hlt:m<k
  ·have Hj:(m:Int)<(k:Int):=(by omega);have Ha:m<l.length:=(by have:=HK.o;omega);obtain⟨g,off,At1,ct1,Ax1,cx1,Ab1,cb1,Ae1,ce1,rfl,hty,hc7⟩:=HP.o.spot m Ha;rw[HL.o]at hc7;obtain⟨hg,c0,c1,c2,c3,c4,c5,c6⟩:=hc7 wr HW.o;have Hc:=ykZ Ha;obtain⟨p,hpe⟩:=zE (l[m]'Ha);have H5:p∈l:=(by rw[<-hpe];exact yfZ Ha);rw[hpe]at c0 c1 c2 c3 c4 c5 c6 Hc hty;have Hh:Sx.sizeS p<=1000000:=(by have:=Sx.sizeS_mem H5;have:=HZ.o;omega);have H4:=Sx.rightSs_snoc NM d (l.take m) p;rw[H7.o,<-Hc]at H4;have H1:=Sx.rightSs_pre NM d (l.take (m+1)) (l.drop (m+1));rw[ydbZ]at H1;obtain⟨w9,hw9⟩:=zE (wr.alloc (.cells #[.int .i64 p.pos,.int .i64 p.kind,.string ⟨p.name.toArray⟩,.slice At1 p.t.length ct1,.slice Ax1 p.x.length cx1,.slice Ab1 p.body.length cb1,.slice Ae1 p.els.length ce1] 69));have H3:w9.heap[wr.heap.size]? =some (.cells #[.int .i64 p.pos,.int .i64 p.kind,.string ⟨p.name.toArray⟩,.slice At1 p.t.length ct1,.slice Ax1 p.x.length cx1,.slice Ab1 p.body.length cb1,.slice Ae1 p.els.length ce1] 69 (0,0)):=(by rw[<-hw9];exact ydZ wr _);have Hd:Below L W w9:=HW.o.trans ((by rw[<-hw9];exact zeZ (yeZ wr _ none):Below wr.heap.size wr w9).mono hLs);have He:Calls Tryz.prog 120 #[.agg #[.int .i64 p.pos,.int .i64 p.kind,.string ⟨p.name.toArray⟩,.slice At1 p.t.length ct1,.slice Ax1 p.x.length cx1,.slice Ab1 p.body.length cb1,.slice Ae1 p.els.length ce1],.int .i64 e] w9 fun e X'=>e=.returned (.bool (Sx.rightS NM d p))/\Below w9.heap.size w9 X':=(by rw[<-HE.o];have hB:Below W.heap.size W w9:=(by rw[HL.o];exact Hd);exact Hl.o p H5 _ w9 (HG.o.below hB) (ymZ HN.o hB.size) (IsSt.below hB p _ hty) Hh);have H9:=zh He;have Hf:=zh Hd;have H0:=zh H4;have H6:=zh H1;obtain⟨z0,z1,z2,z3,z4,z5,z6⟩:=zbZ H3;have Ho:=zaZ H3;have H8:L<=w9.heap.size:=(by omega);clear He H4 H1 Hc hc7 hty hpe H5 Hh H3 Hd
   cases hr:Sx.rightS NM d p with
   | true=>
    rw[hr]at H9 H0;clear hr;go_wp2_with (go_at_call 120;refine H9.o.mono ?_;rintro e w11 ⟨rfl,H2⟩);have Hb:=zh (Hf.o.trans (H2.mono H8));clear H2;go_roundg (k-(m+1))
    case measure=>have:=HI.o;omega
    case rel=>exact⟨m+1,rfl,by simp,hlt,Hb.o,H0.o⟩
   | false=>rw[hr]at H9 H0;have HF:=zh (H6.o H0.o);clear hr;go_wp2_with (go_at_call 120;refine H9.o.mono ?_;rintro e w11 ⟨rfl,H2⟩);have Hb:=zh (Hf.o.trans (H2.mono H8));clear H2;go_ret;rw[HF.o,HL.o];exact⟨rfl,Hb.o⟩
  ·have Hj:¬(m:Int)<(k:Int):=by omega
   have HF:=zh (show Sx.rightSs NM d l=true by
    have h:=H7.o
    rwa [yjZ (by have:=HK.o;omega)]at h)
   go_wp2_with fail
   go_ret;rw[HF.o,HL.o];exact⟨rfl,HW.o⟩
def Sx.restS (k:Int) (sm nE:Bool) (tl:Nat) (rt:Bool) (bl el:Nat) (rb re:Bool):Bool:=
 decide (1<=k/\k<=7)&&((if k=1\/k=2 then sm else nE)&&((decide (tl=0)||(decide (k=1)&&(decide (tl=1)&&rt)))&&((decide (k=4\/k=5)||decide (bl=0))&&((decide (k=4)||decide (el=0))&&(rb&&re)))))
def Sx.head0 (x:List Sx.Ex):Bool:=match x with | []=>true | p::_=>Sx.rightX NM 64 p
theorem Sx.head0_at:∀(x:List Sx.Ex) (h:0<x.length),Sx.rightX NM 64 (x[0]'h)=Sx.head0 x
 | a::l,h=>rfl
theorem Sx.isE {α:Type} (l:List α):l.isEmpty=decide (l.length=0):=by cases l <;> simp
theorem Sx.rightS_eq (d:Nat) (s:Sx.St):Sx.rightS NM d s=(decide (d≠0)&&(decide (s.x.length=1)&&(Sx.head0 s.x&&Sx.restS s.kind (NM.small s.name) s.name.isEmpty s.t.length (Sx.right0 s.t) s.body.length s.els.length (Sx.rightSs NM (d-1) s.body) (Sx.rightSs NM (d-1) s.els)))):=by
 cases s with
 | mk pos k nm t x b e=>
  cases d with
  | zero=>simp[Sx.rightS]
  | succ d=>
   rw[Sx.rightS];show _=(decide (d+1≠0)&&(decide (x.length=1)&&(Sx.head0 x&&Sx.restS k (NM.small nm) nm.isEmpty t.length (Sx.right0 t) b.length e.length (Sx.rightSs NM (d+1-1) b) (Sx.rightSs NM (d+1-1) e))));unfold Sx.shapeS Sx.restS;rw[Sx.isE b,Sx.isE e,Sx.isE t];have hx:(x.length==1&&Sx.rightXs NM 64 64 x)=(decide (x.length=1)&&Sx.head0 x):=by
    match x with
    | []=>simp
    | [a]=>simp[Sx.rightXs,Sx.head0]
    | a::c::l=>simp
   have ht:(decide (t.length=0)||(decide (k=1)&&(t.length==1&&Sx.rightTs NM 64 t)))=(decide (t.length=0)||(decide (k=1)&&(decide (t.length=1)&&Sx.right0 t))):=by
    match t with
    | []=>simp
    | [a]=>simp[Sx.rightTs,Sx.right0]
    | a::c::l=>simp
   rw[hx,ht];simp[Bool.and_assoc];cases decide (x.length=1) <;> cases Sx.head0 x <;> simp
theorem zotZ (d:Nat) (hd:d<=64) (s:Sx.St) (ihb:∀d,d<=64->RightSsOk d s.body) (ihe:∀d,d<=64->RightSsOk d s.els):RightSOk d s:=by
 intro v W hG hN J5 Jo;obtain⟨At,ct,Ax,cx,Ab,cb,Ae,ce,rfl,htt,hxx,hbb,hee⟩:=J5.agg;have Jh:=Sx.sizeS_parts s;have Jn:=Sx.length_sizeXs s.x;have J0:=Sx.length_size s.t;have Je:=Sx.length_sizeSs s.body;have Jj:=Sx.length_sizeSs s.els;have Hw:=Sx.rightS_eq d s;have hTY:=fun(p:Sx.Ty) (hp:p∈s.t) u X hX hu=>zfbZ 64 (by omega) p u X (hG.below hX) (ymZ hN hX.size) hu (by have:=Sx.size_mem hp;omega);have hEX:=fun(p:Sx.Ex) (hp:p∈s.x) u X hX hu=>zdxZ _ p (ybZ _) 64 (by omega) u X (hG.below hX) (ymZ hN hX.size) hu (by have:=Sx.sizeX_mem hp;omega);have hNA:=fun X (hX:Below W.heap.size W X)=>znhZ s.name X (hG.below hX) (ymZ hN hX.size) (by omega);obtain⟨e,he⟩:∃e:Int,(d:Int)=e:=⟨_,rfl⟩;have hBO:∀X,Below W.heap.size W X->1<=d->Calls Tryz.prog 65 #[.slice Ab s.body.length cb,.int .i64 (e-1)] X fun e X'=>e=.returned (.bool (Sx.rightSs NM (d-1) s.body))/\Below X.heap.size X X':=fun X hX h1=>by rw[show e-1=((d-1:Nat):Int)by omega];exact ihb (d-1) (by omega) _ X (hG.below hX) (ymZ hN hX.size) (hbb.below hX) (by omega)
 have hEL:∀X,Below W.heap.size W X->1<=d->Calls Tryz.prog 65 #[.slice Ae s.els.length ce,.int .i64 (e-1)] X fun e X'=>e=.returned (.bool (Sx.rightSs NM (d-1) s.els))/\Below X.heap.size X X':=fun X hX h1=>by rw[show e-1=((d-1:Nat):Int)by omega];exact ihe (d-1) (by omega) _ X (hG.below hX) (ymZ hN hX.size) (hee.below hX) (by omega)
 obtain⟨sm,hsm⟩:=zE (NM.small s.name);obtain⟨nE,hnE⟩:=zE (s.name.isEmpty);obtain⟨rt,hrt⟩:=zE (Sx.right0 s.t);obtain⟨rx,hrx0⟩:=zE (Sx.head0 s.x);obtain⟨rb,hrb⟩:=zE (Sx.rightSs NM (d-1) s.body);obtain⟨re,hre⟩:=zE (Sx.rightSs NM (d-1) s.els);rw[hsm,hnE,hrt,hrx0,hrb,hre]at Hw;rw[hsm]at hNA;rw[hrb]at hBO;rw[hre]at hEL;have hT0:∀(h:0<s.t.length),Sx.rightT NM 64 (s.t[0]'h)=rt:=fun h=>by rw[<-hrt];exact Sx.right0_head _ h
 have hX0:∀(h:0<s.x.length),Sx.rightX NM 64 (s.x[0]'h)=rx:=fun h=>by rw[<-hrx0];exact Sx.head0_at _ h
 obtain⟨kd,hkd⟩:=zE (s.kind);obtain⟨tl,htl⟩:=zE (s.t.length);obtain⟨xl,hxl'⟩:∃k,s.x.length=k:=⟨_,rfl⟩;obtain⟨bl,hbl'⟩:∃k,s.body.length=k:=⟨_,rfl⟩;obtain⟨el,hel'⟩:∃k,s.els.length=k:=⟨_,rfl⟩;have b1:(tl:Int)<=1000000:=by omega
 have b2:(xl:Int)<=1000000:=by omega
 have b3:(bl:Int)<=1000000:=by omega
 have b4:(el:Int)<=1000000:=by omega
 have b5:(0:Int)<=(tl:Int):=by omega
 have b6:(0:Int)<=(xl:Int):=by omega
 have b7:(0:Int)<=(bl:Int):=by omega
 have b8:(0:Int)<=(el:Int):=by omega
 have Jr:(0:Int)<=e:=by omega
 have J8:e<=64:=by omega
 rw[hkd,htl,hxl',hbl',hel']at Hw;rw[he,hkd,htl,hxl',hbl',hel'];rw[htl]at htt;rw[hxl']at hxx;rw[hbl']at hBO;rw[hel']at hEL;have Jb:=zh hTY;have Jf:=zh hEX;have Jg:=zh hNA;have Jp:=zh hBO;have J6:=zh hEL;have Jm:=zh hT0;have J9:=zh hX0;have Jl:=zh htt;have J7:=zh hxx;have H9:=zh Hw;have Ji:=zh htl;have Ja:=zh hxl';have HE:=zh he;have Hh:=zh hnE;have J3:=zh hsm;obtain⟨L,hL⟩:=zE (W.heap.size);obtain⟨w2,hw2⟩:=zE (W.alloc (.cells #[.int .i64 s.pos,.int .i64 kd,.string ⟨s.name.toArray⟩,.slice At tl ct,.slice Ax xl cx,.slice Ab bl cb,.slice Ae el ce] 69));have J2:Held1 L W #[.int .i64 s.pos,.int .i64 kd,.string ⟨s.name.toArray⟩,.slice At tl ct,.slice Ax xl cx,.slice Ab bl cb,.slice Ae el ce] 69 w2:=⟨by rw[<-hw2,<-hL];exact zeZ (yeZ W _ none),by rw[<-hw2,<-hL];exact ydZ W _⟩;have H2:=zh J2;have HL:=zh hL;clear J2 hTY hEX hNA hBO hEL hT0 hX0 htt hxx hbb hee Hw htl hxl' hbl' hel' he J5 Jo Jh Jn J0 Je Jj hsm hnE hrt hrx0 hrb hre hkd hG hN ihb ihe hd;obtain⟨x0,x1,x2,x3,x4,x5,x6⟩:=zbZ H2.o.b1;have H1:=zaZ H2.o.b1;have h6:=HL.o;by_cases hd0:d=0
 ·obtain rfl:e=0:=(by have:=HE.o;omega);go_enter Tryz.func120, Tryz.ntmps120;go_wp2_with fail;go_ret;rw[H9.o]
  try rw[HL.o]
  exact⟨by simp[Sx.restS,hd0],H2.o.b⟩
 have e0:(e==0)=false:=by rw[yaZ];have:=HE.o;omega
 have Jq:1<=e:=by have:=HE.o;omega
 have J4:1<=d:=by omega
 by_cases hx1:xl=1
 rotate_left
 ·have Js:((xl:Int) != 1)=true:=(by rw[bne_iff_ne];omega);have Jc:¬(xl:Int)=1:=(by omega);go_enter Tryz.func120, Tryz.ntmps120;go_wp2_with fail;go_ret;rw[H9.o]
  try rw[HL.o]
  exact⟨by simp[Sx.restS,hx1],H2.o.b⟩
 subst hx1;have Hv:0<s.x.length:=by have:=Ja.o;omega
 obtain⟨gX,offX,AtX,ctX,AnX,cnX,AqX,cqX,rfl,htyX,hcX⟩:=J7.o.spot 0 Hv;rw[HL.o]at hcX;obtain⟨dgX,q0,q1,q2,q3,q4,q5,q6⟩:=hcX _ H2.o.b;rw[yrZ,ypZ]at q0 q1 q2 q3 q4 q5 q6;have Hl:=Jf.o _ (yfZ Hv) _ _ (by rw[HL.o];exact H2.o.b) (IsEx.below (by rw[HL.o];exact H2.o.b) _ _ htyX);rw[J9.o Hv]at Hl;obtain⟨pX,hpX⟩:=zE (s.x[0]'Hv);rw[hpX]at q0 q1 q2 q3 q4 q5 q6 Hl;have Hs:=zh Hl;clear hcX htyX Hl hpX
 cases rx with
 | false=>
  go_enter Tryz.func120, Tryz.ntmps120
  go_wp2_with (go_at_call 63;refine Hs.o.mono ?_;rintro e w3 ⟨rfl,Hq⟩;have H3:=zh (H2.o.go Hq);clear Hq;clear x0 x1 x2 x3 x4 x5 x6 H1;obtain⟨x0,x1,x2,x3,x4,x5,x6⟩:=zbZ H3.o.b1;have H1:=zaZ H3.o.b1)
  go_ret;rw[H9.o]
  try rw[HL.o]
  exact⟨by simp[Sx.restS],H3.o.b⟩
 | true=>
  go_enter Tryz.func120, Tryz.ntmps120
  go_upto_region 3 with(go_at_call 63;refine Hs.o.mono ?_;rintro e w3 ⟨rfl,Hq⟩;have H3:=zh (H2.o.go Hq);clear Hq;clear x0 x1 x2 x3 x4 x5 x6 H1;obtain⟨x0,x1,x2,x3,x4,x5,x6⟩:=zbZ H3.o.b1;have H1:=zaZ H3.o.b1)
  clear q0 q1 q2 q3 q4 q5 q6 dgX;have Ha:=zh (Jg.o _ (by rw[HL.o];exact H3.o.b));have Hu:=fun(X:World) (hX:Below L W X)=>Jp.o X (by rw[HL.o];exact hX) J4;have Ht:=fun(X:World) (hX:Below L W X)=>J6.o X (by rw[HL.o];exact hX) J4;have Hc:=zh Hu;have Hf:=zh Ht;clear Hu Ht;by_cases hk1:kd=1
  ·subst hk1
   cases nE with
   | true=>
    have Hg:=Hh.o;have Ho:sm=false:=by
     cases sm with
     | false=>rfl
     | true=>exact absurd (List.isEmpty_iff.1 Hg) (NM.ok.small _ J3.o)
    subst Ho;go_wp2_with fail;go_ret;rw[H9.o]
    try rw[HL.o]
    exact⟨by simp[Sx.restS,hd0],H3.o.b⟩
   | false=>
    have Hg:=Hh.o
    cases sm with
    | true=>
     rcases yLZ tl with hztl | hztl
     ·subst hztl;rcases yLZ bl with hzbl | hzbl
      ·subst hzbl;rcases yLZ el with hzel | hzel
       ·subst hzel
        cases rb with
        | true=>
         cases re with
         | true=>
          go_wp2_with (first | (go_at_call 132;refine Ha.o.mono ?_;rintro e w4 ⟨rfl,H0⟩;have H4:=zh (H3.o.go H0);clear H0;clear x0 x1 x2 x3 x4 x5 x6 H1;obtain⟨x0,x1,x2,x3,x4,x5,x6⟩:=zbZ H4.o.b1;have H1:=zaZ H4.o.b1) | (go_at_call 65;(with_reducible refine(Hc.o _ H4.o.b).mono ?_);rintro e w5 ⟨rfl,H8⟩;have H5:=zh (H4.o.go H8);clear H8;clear x0 x1 x2 x3 x4 x5 x6 H1;obtain⟨x0,x1,x2,x3,x4,x5,x6⟩:=zbZ H5.o.b1;have H1:=zaZ H5.o.b1) | (go_at_call 65;(with_reducible refine(Hf.o _ H5.o.b).mono ?_);rintro e w6 ⟨rfl,He⟩;have H6:=zh (H5.o.go He);clear He))
          go_ret;rw[H9.o]
          try rw[HL.o]
          exact⟨by simp[Sx.restS,hd0],H6.o.b⟩
         | false=>
          go_wp2_with (first | (go_at_call 132;refine Ha.o.mono ?_;rintro e w4 ⟨rfl,H0⟩;have H4:=zh (H3.o.go H0);clear H0;clear x0 x1 x2 x3 x4 x5 x6 H1;obtain⟨x0,x1,x2,x3,x4,x5,x6⟩:=zbZ H4.o.b1;have H1:=zaZ H4.o.b1) | (go_at_call 65;(with_reducible refine(Hc.o _ H4.o.b).mono ?_);rintro e w5 ⟨rfl,H8⟩;have H5:=zh (H4.o.go H8);clear H8;clear x0 x1 x2 x3 x4 x5 x6 H1;obtain⟨x0,x1,x2,x3,x4,x5,x6⟩:=zbZ H5.o.b1;have H1:=zaZ H5.o.b1) | (go_at_call 65;(with_reducible refine(Hf.o _ H5.o.b).mono ?_);rintro e w6 ⟨rfl,He⟩;have H6:=zh (H5.o.go He);clear He))
          go_ret;rw[H9.o]
          try rw[HL.o]
          exact⟨by simp[Sx.restS,hd0],H6.o.b⟩
        | false=>
         go_wp2_with (first | (go_at_call 132;refine Ha.o.mono ?_;rintro e w4 ⟨rfl,H0⟩;have H4:=zh (H3.o.go H0);clear H0;clear x0 x1 x2 x3 x4 x5 x6 H1;obtain⟨x0,x1,x2,x3,x4,x5,x6⟩:=zbZ H4.o.b1;have H1:=zaZ H4.o.b1) | (go_at_call 65;(with_reducible refine(Hc.o _ H4.o.b).mono ?_);rintro e w5 ⟨rfl,H8⟩;have H5:=zh (H4.o.go H8);clear H8;clear x0 x1 x2 x3 x4 x5 x6 H1;obtain⟨x0,x1,x2,x3,x4,x5,x6⟩:=zbZ H5.o.b1;have H1:=zaZ H5.o.b1))
         go_ret;rw[H9.o]
         try rw[HL.o]
         exact⟨by simp[Sx.restS,hd0],H5.o.b⟩
       ·have Hi:(0:Int)<(el:Int):=(by omega);have Hb:¬el=0:=(by omega);go_wp2_with (first | (go_at_call 132;refine Ha.o.mono ?_;rintro e w4 ⟨rfl,H0⟩;have H4:=zh (H3.o.go H0);clear H0;clear x0 x1 x2 x3 x4 x5 x6 H1;obtain⟨x0,x1,x2,x3,x4,x5,x6⟩:=zbZ H4.o.b1;have H1:=zaZ H4.o.b1));go_ret;rw[H9.o]
        try rw[HL.o]
        exact⟨by simp[Sx.restS,hd0,Hb],H4.o.b⟩
      ·have Hk:(0:Int)<(bl:Int):=(by omega);have Hd:¬bl=0:=(by omega);go_wp2_with (first | (go_at_call 132;refine Ha.o.mono ?_;rintro e w4 ⟨rfl,H0⟩;have H4:=zh (H3.o.go H0);clear H0;clear x0 x1 x2 x3 x4 x5 x6 H1;obtain⟨x0,x1,x2,x3,x4,x5,x6⟩:=zbZ H4.o.b1;have H1:=zaZ H4.o.b1));go_ret;rw[H9.o]
       try rw[HL.o]
       exact⟨by simp[Sx.restS,hd0,Hd],H4.o.b⟩
     ·by_cases ht1:tl=1
      ·subst ht1;have Hx:0<s.t.length:=(by have:=Ji.o;omega);obtain⟨gT,offT,AnT,cnT,AeT,ceT,AqT,cqT,rfl,htyT,hcT⟩:=Jl.o.spot 0 Hx;rw[HL.o]at hcT;have Jd:=zh htyT;have Hn:=zh hcT;have Hm:=zh (fun X (hX:Below L W X)=>Jb.o _ (yfZ Hx) _ X (by rw[HL.o];exact hX) (Jd.o.below (by rw[HL.o];exact hX)));rw[Jm.o Hx]at Hm;obtain⟨pT,hpT⟩:=zE (s.t[0]'Hx);rw[hpT]at Hn Hm;clear htyT hcT hpT
       cases rt with
       | true=>
        rcases yLZ bl with hzbl | hzbl
        ·subst hzbl;rcases yLZ el with hzel | hzel
         ·subst hzel
          cases rb with
          | true=>
           cases re with
           | true=>
            go_wp2_with (first | (go_at_call 132;refine Ha.o.mono ?_;rintro e w4 ⟨rfl,H0⟩;have H4:=zh (H3.o.go H0);clear H0;clear x0 x1 x2 x3 x4 x5 x6 H1;obtain⟨x0,x1,x2,x3,x4,x5,x6⟩:=zbZ H4.o.b1;have H1:=zaZ H4.o.b1;obtain⟨dgT,r0,r1,r2,r3,r4⟩:=Hn.o _ H4.o.b;rw[yrZ,ypZ]at r0 r1 r2 r3 r4) | (go_at_call 58;refine(Hm.o _ H4.o.b).mono ?_;rintro e w5 ⟨rfl,H8⟩;have H5:=zh (H4.o.go H8);clear H8 r0 r1 r2 r3 r4 dgT;clear x0 x1 x2 x3 x4 x5 x6 H1;obtain⟨x0,x1,x2,x3,x4,x5,x6⟩:=zbZ H5.o.b1;have H1:=zaZ H5.o.b1) | (go_at_call 65;(with_reducible refine(Hc.o _ H5.o.b).mono ?_);rintro e w6 ⟨rfl,He⟩;have H6:=zh (H5.o.go He);clear He;clear x0 x1 x2 x3 x4 x5 x6 H1;obtain⟨x0,x1,x2,x3,x4,x5,x6⟩:=zbZ H6.o.b1;have H1:=zaZ H6.o.b1) | (go_at_call 65;(with_reducible refine(Hf.o _ H6.o.b).mono ?_);rintro e w7 ⟨rfl,Hr⟩;have H7:=zh (H6.o.go Hr);clear Hr))
            go_ret;rw[H9.o]
            try rw[HL.o]
            exact⟨by simp[Sx.restS,hd0],H7.o.b⟩
           | false=>
            go_wp2_with (first | (go_at_call 132;refine Ha.o.mono ?_;rintro e w4 ⟨rfl,H0⟩;have H4:=zh (H3.o.go H0);clear H0;clear x0 x1 x2 x3 x4 x5 x6 H1;obtain⟨x0,x1,x2,x3,x4,x5,x6⟩:=zbZ H4.o.b1;have H1:=zaZ H4.o.b1;obtain⟨dgT,r0,r1,r2,r3,r4⟩:=Hn.o _ H4.o.b;rw[yrZ,ypZ]at r0 r1 r2 r3 r4) | (go_at_call 58;refine(Hm.o _ H4.o.b).mono ?_;rintro e w5 ⟨rfl,H8⟩;have H5:=zh (H4.o.go H8);clear H8 r0 r1 r2 r3 r4 dgT;clear x0 x1 x2 x3 x4 x5 x6 H1;obtain⟨x0,x1,x2,x3,x4,x5,x6⟩:=zbZ H5.o.b1;have H1:=zaZ H5.o.b1) | (go_at_call 65;(with_reducible refine(Hc.o _ H5.o.b).mono ?_);rintro e w6 ⟨rfl,He⟩;have H6:=zh (H5.o.go He);clear He;clear x0 x1 x2 x3 x4 x5 x6 H1;obtain⟨x0,x1,x2,x3,x4,x5,x6⟩:=zbZ H6.o.b1;have H1:=zaZ H6.o.b1) | (go_at_call 65;(with_reducible refine(Hf.o _ H6.o.b).mono ?_);rintro e w7 ⟨rfl,Hr⟩;have H7:=zh (H6.o.go Hr);clear Hr))
            go_ret;rw[H9.o]
            try rw[HL.o]
            exact⟨by simp[Sx.restS,hd0],H7.o.b⟩
          | false=>
           go_wp2_with (first | (go_at_call 132;refine Ha.o.mono ?_;rintro e w4 ⟨rfl,H0⟩;have H4:=zh (H3.o.go H0);clear H0;clear x0 x1 x2 x3 x4 x5 x6 H1;obtain⟨x0,x1,x2,x3,x4,x5,x6⟩:=zbZ H4.o.b1;have H1:=zaZ H4.o.b1;obtain⟨dgT,r0,r1,r2,r3,r4⟩:=Hn.o _ H4.o.b;rw[yrZ,ypZ]at r0 r1 r2 r3 r4) | (go_at_call 58;refine(Hm.o _ H4.o.b).mono ?_;rintro e w5 ⟨rfl,H8⟩;have H5:=zh (H4.o.go H8);clear H8 r0 r1 r2 r3 r4 dgT;clear x0 x1 x2 x3 x4 x5 x6 H1;obtain⟨x0,x1,x2,x3,x4,x5,x6⟩:=zbZ H5.o.b1;have H1:=zaZ H5.o.b1) | (go_at_call 65;(with_reducible refine(Hc.o _ H5.o.b).mono ?_);rintro e w6 ⟨rfl,He⟩;have H6:=zh (H5.o.go He);clear He;clear x0 x1 x2 x3 x4 x5 x6 H1;obtain⟨x0,x1,x2,x3,x4,x5,x6⟩:=zbZ H6.o.b1;have H1:=zaZ H6.o.b1))
           go_ret;rw[H9.o]
           try rw[HL.o]
           exact⟨by simp[Sx.restS,hd0],H6.o.b⟩
         ·have Hi:(0:Int)<(el:Int):=(by omega);have Hb:¬el=0:=(by omega);go_wp2_with (first | (go_at_call 132;refine Ha.o.mono ?_;rintro e w4 ⟨rfl,H0⟩;have H4:=zh (H3.o.go H0);clear H0;clear x0 x1 x2 x3 x4 x5 x6 H1;obtain⟨x0,x1,x2,x3,x4,x5,x6⟩:=zbZ H4.o.b1;have H1:=zaZ H4.o.b1;obtain⟨dgT,r0,r1,r2,r3,r4⟩:=Hn.o _ H4.o.b;rw[yrZ,ypZ]at r0 r1 r2 r3 r4) | (go_at_call 58;refine(Hm.o _ H4.o.b).mono ?_;rintro e w5 ⟨rfl,H8⟩;have H5:=zh (H4.o.go H8);clear H8 r0 r1 r2 r3 r4 dgT;clear x0 x1 x2 x3 x4 x5 x6 H1;obtain⟨x0,x1,x2,x3,x4,x5,x6⟩:=zbZ H5.o.b1;have H1:=zaZ H5.o.b1));go_ret;rw[H9.o]
          try rw[HL.o]
          exact⟨by simp[Sx.restS,hd0,Hb],H5.o.b⟩
        ·have Hk:(0:Int)<(bl:Int):=(by omega);have Hd:¬bl=0:=(by omega);go_wp2_with (first | (go_at_call 132;refine Ha.o.mono ?_;rintro e w4 ⟨rfl,H0⟩;have H4:=zh (H3.o.go H0);clear H0;clear x0 x1 x2 x3 x4 x5 x6 H1;obtain⟨x0,x1,x2,x3,x4,x5,x6⟩:=zbZ H4.o.b1;have H1:=zaZ H4.o.b1;obtain⟨dgT,r0,r1,r2,r3,r4⟩:=Hn.o _ H4.o.b;rw[yrZ,ypZ]at r0 r1 r2 r3 r4) | (go_at_call 58;refine(Hm.o _ H4.o.b).mono ?_;rintro e w5 ⟨rfl,H8⟩;have H5:=zh (H4.o.go H8);clear H8 r0 r1 r2 r3 r4 dgT;clear x0 x1 x2 x3 x4 x5 x6 H1;obtain⟨x0,x1,x2,x3,x4,x5,x6⟩:=zbZ H5.o.b1;have H1:=zaZ H5.o.b1));go_ret;rw[H9.o]
         try rw[HL.o]
         exact⟨by simp[Sx.restS,hd0,Hd],H5.o.b⟩
       | false=>
        go_wp2_with (first | (go_at_call 132;refine Ha.o.mono ?_;rintro e w4 ⟨rfl,H0⟩;have H4:=zh (H3.o.go H0);clear H0;clear x0 x1 x2 x3 x4 x5 x6 H1;obtain⟨x0,x1,x2,x3,x4,x5,x6⟩:=zbZ H4.o.b1;have H1:=zaZ H4.o.b1;obtain⟨dgT,r0,r1,r2,r3,r4⟩:=Hn.o _ H4.o.b;rw[yrZ,ypZ]at r0 r1 r2 r3 r4) | (go_at_call 58;refine(Hm.o _ H4.o.b).mono ?_;rintro e w5 ⟨rfl,H8⟩;have H5:=zh (H4.o.go H8);clear H8 r0 r1 r2 r3 r4 dgT;clear x0 x1 x2 x3 x4 x5 x6 H1;obtain⟨x0,x1,x2,x3,x4,x5,x6⟩:=zbZ H5.o.b1;have H1:=zaZ H5.o.b1))
        go_ret;rw[H9.o]
        try rw[HL.o]
        exact⟨by simp[Sx.restS,hd0],H5.o.b⟩
      ·have Hp:(1:Int)<(tl:Int):=(by omega);have Hj:¬tl=0:=(by omega);go_wp2_with (first | (go_at_call 132;refine Ha.o.mono ?_;rintro e w4 ⟨rfl,H0⟩;have H4:=zh (H3.o.go H0);clear H0;clear x0 x1 x2 x3 x4 x5 x6 H1;obtain⟨x0,x1,x2,x3,x4,x5,x6⟩:=zbZ H4.o.b1;have H1:=zaZ H4.o.b1));go_ret;rw[H9.o]
       try rw[HL.o]
       exact⟨by simp[Sx.restS,hd0,Hj,ht1],H4.o.b⟩
    | false=>
     go_wp2_with (first | (go_at_call 132;refine Ha.o.mono ?_;rintro e w4 ⟨rfl,H0⟩;have H4:=zh (H3.o.go H0);clear H0;clear x0 x1 x2 x3 x4 x5 x6 H1;obtain⟨x0,x1,x2,x3,x4,x5,x6⟩:=zbZ H4.o.b1;have H1:=zaZ H4.o.b1))
     go_ret;rw[H9.o]
     try rw[HL.o]
     exact⟨by simp[Sx.restS,hd0],H4.o.b⟩
  by_cases hk2:kd=2
  ·subst hk2
   cases nE with
   | true=>
    have Hg:=Hh.o;have Ho:sm=false:=by
     cases sm with
     | false=>rfl
     | true=>exact absurd (List.isEmpty_iff.1 Hg) (NM.ok.small _ J3.o)
    subst Ho;go_wp2_with fail;go_ret;rw[H9.o]
    try rw[HL.o]
    exact⟨by simp[Sx.restS,hd0],H3.o.b⟩
   | false=>
    have Hg:=Hh.o
    cases sm with
    | true=>
     rcases yLZ tl with hztl | hztl
     ·subst hztl;rcases yLZ bl with hzbl | hzbl
      ·subst hzbl;rcases yLZ el with hzel | hzel
       ·subst hzel
        cases rb with
        | true=>
         cases re with
         | true=>
          go_wp2_with (first | (go_at_call 132;refine Ha.o.mono ?_;rintro e w4 ⟨rfl,H0⟩;have H4:=zh (H3.o.go H0);clear H0;clear x0 x1 x2 x3 x4 x5 x6 H1;obtain⟨x0,x1,x2,x3,x4,x5,x6⟩:=zbZ H4.o.b1;have H1:=zaZ H4.o.b1) | (go_at_call 65;(with_reducible refine(Hc.o _ H4.o.b).mono ?_);rintro e w5 ⟨rfl,H8⟩;have H5:=zh (H4.o.go H8);clear H8;clear x0 x1 x2 x3 x4 x5 x6 H1;obtain⟨x0,x1,x2,x3,x4,x5,x6⟩:=zbZ H5.o.b1;have H1:=zaZ H5.o.b1) | (go_at_call 65;(with_reducible refine(Hf.o _ H5.o.b).mono ?_);rintro e w6 ⟨rfl,He⟩;have H6:=zh (H5.o.go He);clear He))
          go_ret;rw[H9.o]
          try rw[HL.o]
          exact⟨by simp[Sx.restS,hd0],H6.o.b⟩
         | false=>
          go_wp2_with (first | (go_at_call 132;refine Ha.o.mono ?_;rintro e w4 ⟨rfl,H0⟩;have H4:=zh (H3.o.go H0);clear H0;clear x0 x1 x2 x3 x4 x5 x6 H1;obtain⟨x0,x1,x2,x3,x4,x5,x6⟩:=zbZ H4.o.b1;have H1:=zaZ H4.o.b1) | (go_at_call 65;(with_reducible refine(Hc.o _ H4.o.b).mono ?_);rintro e w5 ⟨rfl,H8⟩;have H5:=zh (H4.o.go H8);clear H8;clear x0 x1 x2 x3 x4 x5 x6 H1;obtain⟨x0,x1,x2,x3,x4,x5,x6⟩:=zbZ H5.o.b1;have H1:=zaZ H5.o.b1) | (go_at_call 65;(with_reducible refine(Hf.o _ H5.o.b).mono ?_);rintro e w6 ⟨rfl,He⟩;have H6:=zh (H5.o.go He);clear He))
          go_ret;rw[H9.o]
          try rw[HL.o]
          exact⟨by simp[Sx.restS,hd0],H6.o.b⟩
        | false=>
         go_wp2_with (first | (go_at_call 132;refine Ha.o.mono ?_;rintro e w4 ⟨rfl,H0⟩;have H4:=zh (H3.o.go H0);clear H0;clear x0 x1 x2 x3 x4 x5 x6 H1;obtain⟨x0,x1,x2,x3,x4,x5,x6⟩:=zbZ H4.o.b1;have H1:=zaZ H4.o.b1) | (go_at_call 65;(with_reducible refine(Hc.o _ H4.o.b).mono ?_);rintro e w5 ⟨rfl,H8⟩;have H5:=zh (H4.o.go H8);clear H8;clear x0 x1 x2 x3 x4 x5 x6 H1;obtain⟨x0,x1,x2,x3,x4,x5,x6⟩:=zbZ H5.o.b1;have H1:=zaZ H5.o.b1))
         go_ret;rw[H9.o]
         try rw[HL.o]
         exact⟨by simp[Sx.restS,hd0],H5.o.b⟩
       ·have Hi:(0:Int)<(el:Int):=(by omega);have Hb:¬el=0:=(by omega);go_wp2_with (first | (go_at_call 132;refine Ha.o.mono ?_;rintro e w4 ⟨rfl,H0⟩;have H4:=zh (H3.o.go H0);clear H0;clear x0 x1 x2 x3 x4 x5 x6 H1;obtain⟨x0,x1,x2,x3,x4,x5,x6⟩:=zbZ H4.o.b1;have H1:=zaZ H4.o.b1));go_ret;rw[H9.o]
        try rw[HL.o]
        exact⟨by simp[Sx.restS,hd0,Hb],H4.o.b⟩
      ·have Hk:(0:Int)<(bl:Int):=(by omega);have Hd:¬bl=0:=(by omega);go_wp2_with (first | (go_at_call 132;refine Ha.o.mono ?_;rintro e w4 ⟨rfl,H0⟩;have H4:=zh (H3.o.go H0);clear H0;clear x0 x1 x2 x3 x4 x5 x6 H1;obtain⟨x0,x1,x2,x3,x4,x5,x6⟩:=zbZ H4.o.b1;have H1:=zaZ H4.o.b1));go_ret;rw[H9.o]
       try rw[HL.o]
       exact⟨by simp[Sx.restS,hd0,Hd],H4.o.b⟩
     ·by_cases ht1:tl=1
      ·subst ht1;go_wp2_with (first | (go_at_call 132;refine Ha.o.mono ?_;rintro e w4 ⟨rfl,H0⟩;have H4:=zh (H3.o.go H0);clear H0;clear x0 x1 x2 x3 x4 x5 x6 H1;obtain⟨x0,x1,x2,x3,x4,x5,x6⟩:=zbZ H4.o.b1;have H1:=zaZ H4.o.b1));go_ret;rw[H9.o]
       try rw[HL.o]
       exact⟨by simp[Sx.restS,hd0],H4.o.b⟩
      ·have Hp:(1:Int)<(tl:Int):=(by omega);have Hj:¬tl=0:=(by omega);go_wp2_with (first | (go_at_call 132;refine Ha.o.mono ?_;rintro e w4 ⟨rfl,H0⟩;have H4:=zh (H3.o.go H0);clear H0;clear x0 x1 x2 x3 x4 x5 x6 H1;obtain⟨x0,x1,x2,x3,x4,x5,x6⟩:=zbZ H4.o.b1;have H1:=zaZ H4.o.b1));go_ret;rw[H9.o]
       try rw[HL.o]
       exact⟨by simp[Sx.restS,hd0,Hj,ht1],H4.o.b⟩
    | false=>
     go_wp2_with (first | (go_at_call 132;refine Ha.o.mono ?_;rintro e w4 ⟨rfl,H0⟩;have H4:=zh (H3.o.go H0);clear H0;clear x0 x1 x2 x3 x4 x5 x6 H1;obtain⟨x0,x1,x2,x3,x4,x5,x6⟩:=zbZ H4.o.b1;have H1:=zaZ H4.o.b1))
     go_ret;rw[H9.o]
     try rw[HL.o]
     exact⟨by simp[Sx.restS,hd0],H4.o.b⟩
  by_cases hk3:kd=3
  ·subst hk3
   cases nE with
   | true=>
    have Hg:=Hh.o;rcases yLZ tl with hztl | hztl
    ·subst hztl;rcases yLZ bl with hzbl | hzbl
     ·subst hzbl;rcases yLZ el with hzel | hzel
      ·subst hzel
       cases rb with
       | true=>
        cases re with
        | true=>
         go_wp2_with (first | (go_at_call 65;(with_reducible refine(Hc.o _ H3.o.b).mono ?_);rintro e w4 ⟨rfl,H0⟩;have H4:=zh (H3.o.go H0);clear H0;clear x0 x1 x2 x3 x4 x5 x6 H1;obtain⟨x0,x1,x2,x3,x4,x5,x6⟩:=zbZ H4.o.b1;have H1:=zaZ H4.o.b1) | (go_at_call 65;(with_reducible refine(Hf.o _ H4.o.b).mono ?_);rintro e w5 ⟨rfl,H8⟩;have H5:=zh (H4.o.go H8);clear H8))
         go_ret;rw[H9.o]
         try rw[HL.o]
         exact⟨by simp[Sx.restS,hd0],H5.o.b⟩
        | false=>
         go_wp2_with (first | (go_at_call 65;(with_reducible refine(Hc.o _ H3.o.b).mono ?_);rintro e w4 ⟨rfl,H0⟩;have H4:=zh (H3.o.go H0);clear H0;clear x0 x1 x2 x3 x4 x5 x6 H1;obtain⟨x0,x1,x2,x3,x4,x5,x6⟩:=zbZ H4.o.b1;have H1:=zaZ H4.o.b1) | (go_at_call 65;(with_reducible refine(Hf.o _ H4.o.b).mono ?_);rintro e w5 ⟨rfl,H8⟩;have H5:=zh (H4.o.go H8);clear H8))
         go_ret;rw[H9.o]
         try rw[HL.o]
         exact⟨by simp[Sx.restS,hd0],H5.o.b⟩
       | false=>
        go_wp2_with (go_at_call 65;(with_reducible refine(Hc.o _ H3.o.b).mono ?_);rintro e w4 ⟨rfl,H0⟩;have H4:=zh (H3.o.go H0);clear H0;clear x0 x1 x2 x3 x4 x5 x6 H1;obtain⟨x0,x1,x2,x3,x4,x5,x6⟩:=zbZ H4.o.b1;have H1:=zaZ H4.o.b1)
        go_ret;rw[H9.o]
        try rw[HL.o]
        exact⟨by simp[Sx.restS,hd0],H4.o.b⟩
      ·have Hi:(0:Int)<(el:Int):=(by omega);have Hb:¬el=0:=(by omega);go_wp2_with fail;go_ret;rw[H9.o]
       try rw[HL.o]
       exact⟨by simp[Sx.restS,hd0,Hb],H3.o.b⟩
     ·have Hk:(0:Int)<(bl:Int):=(by omega);have Hd:¬bl=0:=(by omega);go_wp2_with fail;go_ret;rw[H9.o]
      try rw[HL.o]
      exact⟨by simp[Sx.restS,hd0,Hd],H3.o.b⟩
    ·by_cases ht1:tl=1
     ·subst ht1;go_wp2_with fail;go_ret;rw[H9.o]
      try rw[HL.o]
      exact⟨by simp[Sx.restS,hd0],H3.o.b⟩
     ·have Hp:(1:Int)<(tl:Int):=(by omega);have Hj:¬tl=0:=(by omega);go_wp2_with fail;go_ret;rw[H9.o]
      try rw[HL.o]
      exact⟨by simp[Sx.restS,hd0,Hj,ht1],H3.o.b⟩
   | false=>
    have Hg:=Hh.o;go_wp2_with fail;go_ret;rw[H9.o]
    try rw[HL.o]
    exact⟨by simp[Sx.restS,hd0],H3.o.b⟩
  by_cases hk4:kd=4
  ·subst hk4
   cases nE with
   | true=>
    have Hg:=Hh.o;rcases yLZ tl with hztl | hztl
    ·subst hztl
     cases rb with
     | true=>
      cases re with
      | true=>
       go_wp2_with (first | (go_at_call 65;(with_reducible refine(Hc.o _ H3.o.b).mono ?_);rintro e w4 ⟨rfl,H0⟩;have H4:=zh (H3.o.go H0);clear H0;clear x0 x1 x2 x3 x4 x5 x6 H1;obtain⟨x0,x1,x2,x3,x4,x5,x6⟩:=zbZ H4.o.b1;have H1:=zaZ H4.o.b1) | (go_at_call 65;(with_reducible refine(Hf.o _ H4.o.b).mono ?_);rintro e w5 ⟨rfl,H8⟩;have H5:=zh (H4.o.go H8);clear H8))
       go_ret;rw[H9.o]
       try rw[HL.o]
       exact⟨by simp[Sx.restS,hd0],H5.o.b⟩
      | false=>
       go_wp2_with (first | (go_at_call 65;(with_reducible refine(Hc.o _ H3.o.b).mono ?_);rintro e w4 ⟨rfl,H0⟩;have H4:=zh (H3.o.go H0);clear H0;clear x0 x1 x2 x3 x4 x5 x6 H1;obtain⟨x0,x1,x2,x3,x4,x5,x6⟩:=zbZ H4.o.b1;have H1:=zaZ H4.o.b1) | (go_at_call 65;(with_reducible refine(Hf.o _ H4.o.b).mono ?_);rintro e w5 ⟨rfl,H8⟩;have H5:=zh (H4.o.go H8);clear H8))
       go_ret;rw[H9.o]
       try rw[HL.o]
       exact⟨by simp[Sx.restS,hd0],H5.o.b⟩
     | false=>
      go_wp2_with (go_at_call 65;(with_reducible refine(Hc.o _ H3.o.b).mono ?_);rintro e w4 ⟨rfl,H0⟩;have H4:=zh (H3.o.go H0);clear H0;clear x0 x1 x2 x3 x4 x5 x6 H1;obtain⟨x0,x1,x2,x3,x4,x5,x6⟩:=zbZ H4.o.b1;have H1:=zaZ H4.o.b1)
      go_ret;rw[H9.o]
      try rw[HL.o]
      exact⟨by simp[Sx.restS,hd0],H4.o.b⟩
    ·by_cases ht1:tl=1
     ·subst ht1;go_wp2_with fail;go_ret;rw[H9.o]
      try rw[HL.o]
      exact⟨by simp[Sx.restS,hd0],H3.o.b⟩
     ·have Hp:(1:Int)<(tl:Int):=(by omega);have Hj:¬tl=0:=(by omega);go_wp2_with fail;go_ret;rw[H9.o]
      try rw[HL.o]
      exact⟨by simp[Sx.restS,hd0,Hj,ht1],H3.o.b⟩
   | false=>
    have Hg:=Hh.o;go_wp2_with fail;go_ret;rw[H9.o]
    try rw[HL.o]
    exact⟨by simp[Sx.restS,hd0],H3.o.b⟩
  by_cases hk5:kd=5
  ·subst hk5
   cases nE with
   | true=>
    have Hg:=Hh.o;rcases yLZ tl with hztl | hztl
    ·subst hztl;rcases yLZ el with hzel | hzel
     ·subst hzel
      cases rb with
      | true=>
       cases re with
       | true=>
        go_wp2_with (first | (go_at_call 65;(with_reducible refine(Hc.o _ H3.o.b).mono ?_);rintro e w4 ⟨rfl,H0⟩;have H4:=zh (H3.o.go H0);clear H0;clear x0 x1 x2 x3 x4 x5 x6 H1;obtain⟨x0,x1,x2,x3,x4,x5,x6⟩:=zbZ H4.o.b1;have H1:=zaZ H4.o.b1) | (go_at_call 65;(with_reducible refine(Hf.o _ H4.o.b).mono ?_);rintro e w5 ⟨rfl,H8⟩;have H5:=zh (H4.o.go H8);clear H8))
        go_ret;rw[H9.o]
        try rw[HL.o]
        exact⟨by simp[Sx.restS,hd0],H5.o.b⟩
       | false=>
        go_wp2_with (first | (go_at_call 65;(with_reducible refine(Hc.o _ H3.o.b).mono ?_);rintro e w4 ⟨rfl,H0⟩;have H4:=zh (H3.o.go H0);clear H0;clear x0 x1 x2 x3 x4 x5 x6 H1;obtain⟨x0,x1,x2,x3,x4,x5,x6⟩:=zbZ H4.o.b1;have H1:=zaZ H4.o.b1) | (go_at_call 65;(with_reducible refine(Hf.o _ H4.o.b).mono ?_);rintro e w5 ⟨rfl,H8⟩;have H5:=zh (H4.o.go H8);clear H8))
        go_ret;rw[H9.o]
        try rw[HL.o]
        exact⟨by simp[Sx.restS,hd0],H5.o.b⟩
      | false=>
       go_wp2_with (go_at_call 65;(with_reducible refine(Hc.o _ H3.o.b).mono ?_);rintro e w4 ⟨rfl,H0⟩;have H4:=zh (H3.o.go H0);clear H0;clear x0 x1 x2 x3 x4 x5 x6 H1;obtain⟨x0,x1,x2,x3,x4,x5,x6⟩:=zbZ H4.o.b1;have H1:=zaZ H4.o.b1)
       go_ret;rw[H9.o]
       try rw[HL.o]
       exact⟨by simp[Sx.restS,hd0],H4.o.b⟩
     ·have Hi:(0:Int)<(el:Int):=(by omega);have Hb:¬el=0:=(by omega);go_wp2_with fail;go_ret;rw[H9.o]
      try rw[HL.o]
      exact⟨by simp[Sx.restS,hd0,Hb],H3.o.b⟩
    ·by_cases ht1:tl=1
     ·subst ht1;go_wp2_with fail;go_ret;rw[H9.o]
      try rw[HL.o]
      exact⟨by simp[Sx.restS,hd0],H3.o.b⟩
     ·have Hp:(1:Int)<(tl:Int):=(by omega);have Hj:¬tl=0:=(by omega);go_wp2_with fail;go_ret;rw[H9.o]
      try rw[HL.o]
      exact⟨by simp[Sx.restS,hd0,Hj,ht1],H3.o.b⟩
   | false=>
    have Hg:=Hh.o;go_wp2_with fail;go_ret;rw[H9.o]
    try rw[HL.o]
    exact⟨by simp[Sx.restS,hd0],H3.o.b⟩
  by_cases hk6:kd=6
  ·subst hk6
   cases nE with
   | true=>
    have Hg:=Hh.o;rcases yLZ tl with hztl | hztl
    ·subst hztl;rcases yLZ bl with hzbl | hzbl
     ·subst hzbl;rcases yLZ el with hzel | hzel
      ·subst hzel
       cases rb with
       | true=>
        cases re with
        | true=>
         go_wp2_with (first | (go_at_call 65;(with_reducible refine(Hc.o _ H3.o.b).mono ?_);rintro e w4 ⟨rfl,H0⟩;have H4:=zh (H3.o.go H0);clear H0;clear x0 x1 x2 x3 x4 x5 x6 H1;obtain⟨x0,x1,x2,x3,x4,x5,x6⟩:=zbZ H4.o.b1;have H1:=zaZ H4.o.b1) | (go_at_call 65;(with_reducible refine(Hf.o _ H4.o.b).mono ?_);rintro e w5 ⟨rfl,H8⟩;have H5:=zh (H4.o.go H8);clear H8))
         go_ret;rw[H9.o]
         try rw[HL.o]
         exact⟨by simp[Sx.restS,hd0],H5.o.b⟩
        | false=>
         go_wp2_with (first | (go_at_call 65;(with_reducible refine(Hc.o _ H3.o.b).mono ?_);rintro e w4 ⟨rfl,H0⟩;have H4:=zh (H3.o.go H0);clear H0;clear x0 x1 x2 x3 x4 x5 x6 H1;obtain⟨x0,x1,x2,x3,x4,x5,x6⟩:=zbZ H4.o.b1;have H1:=zaZ H4.o.b1) | (go_at_call 65;(with_reducible refine(Hf.o _ H4.o.b).mono ?_);rintro e w5 ⟨rfl,H8⟩;have H5:=zh (H4.o.go H8);clear H8))
         go_ret;rw[H9.o]
         try rw[HL.o]
         exact⟨by simp[Sx.restS,hd0],H5.o.b⟩
       | false=>
        go_wp2_with (go_at_call 65;(with_reducible refine(Hc.o _ H3.o.b).mono ?_);rintro e w4 ⟨rfl,H0⟩;have H4:=zh (H3.o.go H0);clear H0;clear x0 x1 x2 x3 x4 x5 x6 H1;obtain⟨x0,x1,x2,x3,x4,x5,x6⟩:=zbZ H4.o.b1;have H1:=zaZ H4.o.b1)
        go_ret;rw[H9.o]
        try rw[HL.o]
        exact⟨by simp[Sx.restS,hd0],H4.o.b⟩
      ·have Hi:(0:Int)<(el:Int):=(by omega);have Hb:¬el=0:=(by omega);go_wp2_with fail;go_ret;rw[H9.o]
       try rw[HL.o]
       exact⟨by simp[Sx.restS,hd0,Hb],H3.o.b⟩
     ·have Hk:(0:Int)<(bl:Int):=(by omega);have Hd:¬bl=0:=(by omega);go_wp2_with fail;go_ret;rw[H9.o]
      try rw[HL.o]
      exact⟨by simp[Sx.restS,hd0,Hd],H3.o.b⟩
    ·by_cases ht1:tl=1
     ·subst ht1;go_wp2_with fail;go_ret;rw[H9.o]
      try rw[HL.o]
      exact⟨by simp[Sx.restS,hd0],H3.o.b⟩
     ·have Hp:(1:Int)<(tl:Int):=(by omega);have Hj:¬tl=0:=(by omega);go_wp2_with fail;go_ret;rw[H9.o]
      try rw[HL.o]
      exact⟨by simp[Sx.restS,hd0,Hj,ht1],H3.o.b⟩
   | false=>
    have Hg:=Hh.o;go_wp2_with fail;go_ret;rw[H9.o]
    try rw[HL.o]
    exact⟨by simp[Sx.restS,hd0],H3.o.b⟩
  by_cases hk7:kd=7
  ·subst hk7
   cases nE with
   | true=>
    have Hg:=Hh.o;rcases yLZ tl with hztl | hztl
    ·subst hztl;rcases yLZ bl with hzbl | hzbl
     ·subst hzbl;rcases yLZ el with hzel | hzel
      ·subst hzel
       cases rb with
       | true=>
        cases re with
        | true=>
         go_wp2_with (first | (go_at_call 65;(with_reducible refine(Hc.o _ H3.o.b).mono ?_);rintro e w4 ⟨rfl,H0⟩;have H4:=zh (H3.o.go H0);clear H0;clear x0 x1 x2 x3 x4 x5 x6 H1;obtain⟨x0,x1,x2,x3,x4,x5,x6⟩:=zbZ H4.o.b1;have H1:=zaZ H4.o.b1) | (go_at_call 65;(with_reducible refine(Hf.o _ H4.o.b).mono ?_);rintro e w5 ⟨rfl,H8⟩;have H5:=zh (H4.o.go H8);clear H8))
         go_ret;rw[H9.o]
         try rw[HL.o]
         exact⟨by simp[Sx.restS,hd0],H5.o.b⟩
        | false=>
         go_wp2_with (first | (go_at_call 65;(with_reducible refine(Hc.o _ H3.o.b).mono ?_);rintro e w4 ⟨rfl,H0⟩;have H4:=zh (H3.o.go H0);clear H0;clear x0 x1 x2 x3 x4 x5 x6 H1;obtain⟨x0,x1,x2,x3,x4,x5,x6⟩:=zbZ H4.o.b1;have H1:=zaZ H4.o.b1) | (go_at_call 65;(with_reducible refine(Hf.o _ H4.o.b).mono ?_);rintro e w5 ⟨rfl,H8⟩;have H5:=zh (H4.o.go H8);clear H8))
         go_ret;rw[H9.o]
         try rw[HL.o]
         exact⟨by simp[Sx.restS,hd0],H5.o.b⟩
       | false=>
        go_wp2_with (go_at_call 65;(with_reducible refine(Hc.o _ H3.o.b).mono ?_);rintro e w4 ⟨rfl,H0⟩;have H4:=zh (H3.o.go H0);clear H0;clear x0 x1 x2 x3 x4 x5 x6 H1;obtain⟨x0,x1,x2,x3,x4,x5,x6⟩:=zbZ H4.o.b1;have H1:=zaZ H4.o.b1)
        go_ret;rw[H9.o]
        try rw[HL.o]
        exact⟨by simp[Sx.restS,hd0],H4.o.b⟩
      ·have Hi:(0:Int)<(el:Int):=(by omega);have Hb:¬el=0:=(by omega);go_wp2_with fail;go_ret;rw[H9.o]
       try rw[HL.o]
       exact⟨by simp[Sx.restS,hd0,Hb],H3.o.b⟩
     ·have Hk:(0:Int)<(bl:Int):=(by omega);have Hd:¬bl=0:=(by omega);go_wp2_with fail;go_ret;rw[H9.o]
      try rw[HL.o]
      exact⟨by simp[Sx.restS,hd0,Hd],H3.o.b⟩
    ·by_cases ht1:tl=1
     ·subst ht1;go_wp2_with fail;go_ret;rw[H9.o]
      try rw[HL.o]
      exact⟨by simp[Sx.restS,hd0],H3.o.b⟩
     ·have Hp:(1:Int)<(tl:Int):=(by omega);have Hj:¬tl=0:=(by omega);go_wp2_with fail;go_ret;rw[H9.o]
      try rw[HL.o]
      exact⟨by simp[Sx.restS,hd0,Hj,ht1],H3.o.b⟩
   | false=>
    have Hg:=Hh.o;go_wp2_with fail;go_ret;rw[H9.o]
    try rw[HL.o]
    exact⟨by simp[Sx.restS,hd0],H3.o.b⟩
  by_cases hlo:kd<1
  ·have J1:¬(1:Int)<=kd:=(by omega);have g1:(kd==1)=false:=(by rw[yaZ];omega);have g2:(kd==2)=false:=(by rw[yaZ];omega);have g3:(kd==3)=false:=(by rw[yaZ];omega);have g4:(kd==4)=false:=(by rw[yaZ];omega);have g5:(kd==5)=false:=(by rw[yaZ];omega);have g6:(kd==6)=false:=(by rw[yaZ];omega);have g7:(kd==7)=false:=(by rw[yaZ];omega);have Hz:=zh (show ∀a b c d e f g h,Sx.restS kd a b c d e f g h=false from fun a b c d e f g h=>by unfold Sx.restS;rw[decide_eq_false (by omega)];rfl);clear hk1 hk2 hk3 hk4 hk5 hk6 hk7 J1;go_wp2_with fail;go_ret;rw[H9.o]
   try rw[HL.o]
   exact⟨by simp[hd0,Hz.o],H3.o.b⟩
  ·have Jt:(7:Int)<kd:=(by omega);have Hy:¬kd<=7:=(by omega);have Jk:(1:Int)<=kd:=(by omega);have g1:(kd==1)=false:=(by rw[yaZ];omega);have g2:(kd==2)=false:=(by rw[yaZ];omega);have g3:(kd==3)=false:=(by rw[yaZ];omega);have g4:(kd==4)=false:=(by rw[yaZ];omega);have g5:(kd==5)=false:=(by rw[yaZ];omega);have g6:(kd==6)=false:=(by rw[yaZ];omega);have g7:(kd==7)=false:=(by rw[yaZ];omega);have Hz:=zh (show ∀a b c d e f g h,Sx.restS kd a b c d e f g h=false from fun a b c d e f g h=>by unfold Sx.restS;rw[decide_eq_false (by omega)];rfl);clear hk1 hk2 hk3 hk4 hk5 hk6 hk7 hlo Hy;go_wp2_with fail;go_ret;rw[H9.o]
   try rw[HL.o]
   exact⟨by simp[hd0,Hz.o],H3.o.b⟩
theorem zdzZ:∀(n:Nat) (s:Sx.St),Sx.sizeS s<=n->∀d,d<=64->RightSOk d s
 | 0,s,h=>by have:=Sx.sizeS_pos s;omega
 | n+1,s,h=>fun d hd=>zotZ d hd s
   (fun d hd=>zfiZ d hd _ fun p hp=>zdzZ n p (by
    have:=Sx.sizeS_mem hp;have:=Sx.sizeS_parts s
    omega) d hd)
   (fun d hd=>zfiZ d hd _ fun p hp=>zdzZ n p (by
    have:=Sx.sizeS_mem hp;have:=Sx.sizeS_parts s
    omega) d hd)
theorem zkoZ (d:Nat) (hd:d<=64) (l:List Sx.St):RightSsOk d l:=zfiZ d hd l fun s _=>zdzZ _ s (ybZ _) d hd
end Go.Proofs.YtdncljdfmdgdaaaGreatDoor
