/-
  The walk of coilref2.RightExpr.
-/
import Derived.Test.YtdncljdfmdgdaaaGreatDoorM40
set_option linter.unusedSimpArgs false
set_option linter.unusedVariables false
set_option maxRecDepth 100000
set_option maxHeartbeats 16000000
namespace Go.Proofs.YtdncljdfmdgdaaaGreatDoor
open Go.RowKit Go.Shelf
attribute [local go_sem] opWp zoZ zvZ zpZ
def Sx.okA (k:Int) (s:Lx.Bytes) (tl:Nat) (ns:List Lx.Bytes) (m:Nat):Bool:=
 (if Sx.shP k=-1 then m==ns.length else ns.isEmpty&&(if Sx.shP k=-2 then decide (1<=m)else decide ((m:Int)=Sx.shP k)))&&(decide ((tl:Int)=Sx.shT k)&&(Sx.sd (Sx.shS k) s&&Sx.apart NM ns))
def Sx.okN (k n:Int):Bool:=decide (n=0)||(decide (k=1/\0<=n)||decide (k=3/\0<=n/\n<=1))
theorem Sx.said_all (s:Lx.Bytes):NM.said s=s.all Lx.saidB:=by
 show isTok 5 s=_;rw[<-zgsZ,(Lx.one_written (t:=⟨0,5,s,0⟩) (by show(0:Int)<=_;decide)).1,Lx.text_written]
theorem Sx.shapeX_split {k n:Int} {s:Lx.Bytes} {t:List Sx.Ty} {ns:List Lx.Bytes} {m:Nat} (h1:1<=k) (h2:k<=21):Sx.shapeX NM k n s t ns m=(Sx.okA k s t.length ns m&&(Sx.okN k n&&Sx.rightTs NM 64 t)):=by
 have hk:k=1\/k=2\/k=3\/k=4\/k=5\/k=6\/k=7\/k=8\/k=9\/k=10\/k=11\/k=12\/k=13\/k=14\/k=15\/k=16\/k=17\/k=18\/k=19\/k=20\/k=21:=by omega
 have H0:∀z:Nat,decide ((m:Int)=(z:Int))=(m==z):=fun z=>by rw[yEZ];simp;omega
 have ht:∀z:Nat,decide (((z:Int)+1)=1)=(z==0):=fun z=>by rw[yEZ];simp;omega
 have e0:decide ((m:Int)=0)=(m==0):=H0 0;have e1:decide ((m:Int)=1)=(m==1):=H0 1;have e2:decide ((m:Int)=2)=(m==2):=H0 2;rcases hk with rfl | rfl | rfl | rfl | rfl | rfl | rfl | rfl | rfl | rfl | rfl | rfl | rfl | rfl | rfl | rfl | rfl | rfl | rfl | rfl | rfl
 all_goals
  cases ns <;> cases t <;> simp[Sx.shapeX,Sx.okA,Sx.okN,Sx.shP,Sx.shT,Sx.shS,Sx.sd,Sx.said_all,Sx.apart,Sx.rightTs,e0,e1,e2,ht,Bool.and_assoc,Bool.and_comm,Bool.and_left_comm]
 all_goals first | rfl | (intros;omega) | exact congrArg _ (congrArg _ (Bool.and_left_comm _ _ _))
def RefXOk (x:Sx.Ex):Prop:=∀(d:Nat) (v:Value) (w0 W:World),d<=64->LW w0 W->IsEx W v x->Sx.sizeX x<=1000000->
 Calls Tryz.prog 33 #[v,.int .i64 (d:Nat)] W fun e W'=>e=.returned (.bool (Sx.rightX NM d x))/\LW W W'
theorem Sx.rightXs_iff {N:Sx.Names} : ∀(l:List Sx.Ex) (d0 d:Nat),Sx.rightXs N d0 d l=true↔∀(i:Nat) (h:i<l.length),Sx.rightX N (if i=0 then d0 else d) (l[i]'h)=true
 | [],d0,d=>by simp[Sx.rightXs]
 | x::l,d0,d=>by
  rw[Sx.rightXs,ygZ,Sx.rightXs_iff l d d];constructor
  ·rintro⟨h1,h2⟩ i h
   cases i with
   | zero=>exact h1
   | succ i=>have:=h2 i (by simpa using h);rw[if_neg (by omega)];split at this <;> exact this
  ·intro h;refine⟨h 0 (yVZ _),fun i hi=>?_⟩;have:=h (i+1) (by simpa using hi);rw[if_neg (by omega)]at this;split <;> exact this
theorem Sx.rightTs_iff {N:Sx.Names} {d:Nat} : ∀(l:List Sx.Ty),Sx.rightTs N d l=true↔∀(i:Nat) (h:i<l.length),Sx.rightT N d (l[i]'h)=true
 | []=>by simp[Sx.rightTs]
 | x::l=>by
  rw[Sx.rightTs,ygZ,Sx.rightTs_iff l];constructor
  ·rintro⟨h1,h2⟩ i h
   cases i with
   | zero=>exact h1
   | succ i=>exact h2 i (by simpa using h)
  ·intro h;exact⟨h 0 (yVZ _),fun i hi=>h (i+1) (by simpa using hi)⟩
theorem refB4 (kd:Int) (s:Lx.Bytes) (tl:Nat) (ns:List Lx.Bytes) (k:Nat) (h1:1<=kd) (h2:kd<=21):((((((((decide (0<=(Sx.shP kd)))&&(((k:Nat):Int) != (Sx.shP kd)))||(((Sx.shP kd)==-2)&&(decide (((k:Nat):Int)<1))))||(((Sx.shP kd)==-1)&&(((k:Nat):Int) != ((ns.length:Nat):Int))))||((decide (0<=(Sx.shN kd)))&&(((ns.length:Nat):Int) != 0)))||(((tl:Nat):Int) != (Sx.shT kd)))||(!Sx.sd (Sx.shS kd) s))||(!Sx.apart NM ns))=!(Sx.okA kd s tl ns k):=by
 have hk:kd=1\/kd=2\/kd=3\/kd=4\/kd=5\/kd=6\/kd=7\/kd=8\/kd=9\/kd=10\/kd=11\/kd=12\/kd=13\/kd=14\/kd=15\/kd=16\/kd=17\/kd=18\/kd=19\/kd=20\/kd=21:=by omega
 have H0:ns.isEmpty=decide (ns.length=0):=by cases ns <;> simp
 unfold Sx.okA;rw[H0];generalize Sx.sd (Sx.shS kd) s=sb;generalize Sx.apart NM ns=ab;generalize ns.length=nn;rcases hk with rfl | rfl | rfl | rfl | rfl | rfl | rfl | rfl | rfl | rfl | rfl | rfl | rfl | rfl | rfl | rfl | rfl | rfl | rfl | rfl | rfl
 all_goals
  rw[yEZ];cases sb <;> cases ab <;> simp[Sx.shP,Sx.shN,Sx.shT]
 all_goals omega
theorem refB6 (kd nn:Int):((nn != 0)&&((((kd != 1)&&(kd != 3))||(decide (nn<0)))||((kd==3)&&(decide (1<nn)))))=!(Sx.okN kd nn):=by
 unfold Sx.okN;rw[yEZ];simp;omega
theorem zoyZ (x:Sx.Ex) (ih:∀p∈x.parts,RefXOk p):RefXOk x:=by
 intro d v w0 W hd h0 ht J5;have hG:=h0.self;obtain⟨At,ct,An,cn,Ap,cp,rfl,htt,hnm,hp,hn0,hn1⟩:=ht.agg;have Hv:=Sx.sizeX_parts x;have J3:=Sx.length_sizeXs x.parts;have Hx:=Sx.length_size x.t;have Hy:=fun s (hs:s∈x.names)=>Sx.nameX_len (t:=x) hs;obtain⟨nl,hnle⟩:=zE (x.names.length);obtain⟨tl,htl⟩:=zE (x.t.length);obtain⟨k,hk⟩:=zE (x.parts.length);obtain⟨kd,hkd⟩:=zE (x.kind);obtain⟨nn,hnn⟩:=zE (x.n);have Hh:=zh (show ∀d,Sx.rightX NM (d+1) x=(Sx.shapeX NM kd nn x.s x.t x.names k&&Sx.rightXs NM (if Sx.flat kd then d+1 else d) d x.parts)from fun d=>by rw[<-hkd,<-hnn,<-hk];cases x;rw[Sx.rightX];rfl);have Jh:=zh hnm;rw[hnle]at hnm Hv;rw[htl]at htt Hx;rw[hk]at hp J3;rw[hkd,hnn,hnle,htl,hk];rw[hnn]at hn0 hn1;have k0:(0:Int)<=(k:Int):=by omega
 have k1:(k:Int)<=1000000:=by omega
 have t0:(0:Int)<=(tl:Int):=by omega
 have t1:(tl:Int)<=1000000:=by omega
 have HP:=zh hp;have HT:=zh htt;have J2:=zh (fun p (hp:p∈x.parts)=>(show Sx.sizeX p<=1000000/\RefXOk p from⟨by have:=Sx.sizeX_mem hp;omega,ih p hp⟩));have Jc:=zh (show ∀p∈x.t,Sx.size p<=1000000 from fun p hp=>by have:=Sx.size_mem hp;omega);have HK:=zh hk;have Hs:=zh htl;have Ja:=zh hnle;have Hw:=zh (fun X (hX:LW W X)=>(ziaZ hX x.names _ (Jh.o.below hX.b) (by omega) (fun s hs=>by have:=Hy s hs;omega)).mono fun e w2 h=>(show e=.returned (.bool (Sx.apart NM x.names))/\Below X.heap.size X w2 from⟨h.1,h.2.b⟩));rw[hnle]at Hw;have Hu:=zh (fun c (hc:c=110\/c=84\/c=115\/c=45) X (hX:LW W X)=>(zucZ hX x.s (by omega) c hc).mono fun e w2 h=>(show e=.returned (.bool (Sx.sd c x.s))/\Below X.heap.size X w2 from⟨h.1,h.2.b⟩));obtain⟨L,hL⟩:=zE (W.heap.size);obtain⟨w2,hw2⟩:=zE (W.alloc (.cells #[.int .i64 x.pos,.int .i64 kd,.int .i64 nn,.string ⟨x.s.toArray⟩,.slice At tl ct,.slice An nl cn,.slice Ap k cp] 39));have hS2:(fun X=>LW W X/\X.heap[L]? =some (.cells #[.int .i64 x.pos,.int .i64 kd,.int .i64 nn,.string ⟨x.s.toArray⟩,.slice At tl ct,.slice An nl cn,.slice Ap k cp] 39 (0,0))) w2:=⟨by rw[<-hw2];exact hG.alloc _,by rw[<-hw2,<-hL];exact ydZ W _⟩;have H2:=zh hS2;have Ha:=zh (show ∀X X',(fun X=>LW W X/\X.heap[L]? =some (.cells #[.int .i64 x.pos,.int .i64 kd,.int .i64 nn,.string ⟨x.s.toArray⟩,.slice At tl ct,.slice An nl cn,.slice Ap k cp] 39 (0,0))) X->Below X.heap.size X X'->(fun X=>LW W X/\X.heap[L]? =some (.cells #[.int .i64 x.pos,.int .i64 kd,.int .i64 nn,.string ⟨x.s.toArray⟩,.slice At tl ct,.slice An nl cn,.slice Ap k cp] 39 (0,0))) X' from fun X X2 h hb=>⟨h.1.go hb,(hb.block _ (zaZ h.2)).trans h.2⟩);obtain⟨x0,x1,x2,x3,x4,x5,x6⟩:=zbZ hS2.2;have Hc:=zaZ hS2.2;clear ht htt hnm hp hn0 hn1 Hv J3 Hx Hy hnle htl hk hkd hnn ih J5 h0 hG hS2
 cases d with
 | zero=>
  go_enter Tryz.func33, Tryz.ntmps33
  go_wp2_with fail
  go_ret;exact⟨by cases x;rfl,H2.o.1⟩
 | succ d=>
 obtain⟨e,he⟩:∃e:Int,((d+1:Nat):Int)=e:=⟨_,rfl⟩;have Jk:(e==0)=false:=by rw[yaZ];omega
 have Ji:1<=e/\e<=64:=by omega
 have Jm:IntKind.i64.wrap (e-1)=e-1:=by rw[yQZ];omega
 have J7:=zh (show e-1=((d:Nat):Int)by omega);have Je:=zh he;have J9:=zh hd;rw[he];clear he hd;by_cases hk1:kd<1
 ·have HF:=zh (show Sx.rightX NM (d+1) x=false by rw[Hh.o];unfold Sx.shapeX;rw[decide_eq_false (by omega)];rfl);go_enter Tryz.func33, Tryz.ntmps33;go_wp2_with fail;go_ret;exact⟨by rw[HF.o];rfl,H2.o.1⟩
 by_cases hk2:21<kd
 ·have HF:=zh (show Sx.rightX NM (d+1) x=false by rw[Hh.o];unfold Sx.shapeX;rw[decide_eq_false (by omega)];rfl);go_enter Tryz.func33, Tryz.ntmps33;go_wp2_with fail;go_ret;exact⟨by rw[HF.o];rfl,H2.o.1⟩
 have Hm:1<=kd:=by omega
 have Hn:kd<=21:=by omega
 have Hi:=refB4 kd x.s tl x.names k Hm Hn;have Ht:=refB6 kd nn;have Ho:=zh (Sx.shapeX_split (n:=nn) (s:=x.s) (t:=x.t) (ns:=x.names) (m:=k) Hm Hn);rw[Hs.o]at Ho;rw[Ja.o]at Hi;have J8:Sx.shS kd=110\/Sx.shS kd=84\/Sx.shS kd=115\/Sx.shS kd=45:=by unfold Sx.shS;split;omega;split;omega;split <;> omega
 have J0:=zh (Hu.o (Sx.shS kd) J8);have J4:=zh (zubZ kd w2 Hm Hn);obtain⟨pp,hpp⟩:=zE (Sx.shP kd);obtain⟨pn,hpn⟩:=zE (Sx.shN kd);obtain⟨pt,hpt⟩:=zE (Sx.shT kd);obtain⟨qs,hqs⟩:=zE (Sx.shS kd);obtain⟨ki,Hr⟩:∃q:Int,((k:Nat):Int)=q:=⟨_,rfl⟩;obtain⟨ni,hni⟩:∃q:Int,((nl:Nat):Int)=q:=⟨_,rfl⟩;obtain⟨ti,Hq⟩:∃q:Int,((tl:Nat):Int)=q:=⟨_,rfl⟩;rw[hpp,hpn,hpt,hqs,Hr,hni,Hq]at Hi;rw[hqs]at J0;rw[hpp,hpn,hpt,hqs]at J4;have Hi:=zh Hi;have Ht:=zh Ht;have HQ:=zh (And.intro Hm Hn);clear hpp hpn hpt hqs J8;go_enter Tryz.func33, Tryz.ntmps33;go_upto_region 4 with(go_at_call 73;refine J4.o.mono ?_;rintro e w3 ⟨rfl,rfl⟩)
 clear x0 x1 x2 x3 x4 x5 x6 Hc;have hS0:=H2.o;obtain⟨Fs,hFs⟩:∃F:List (Value->World->Value->Nat->Prop),(let b2:Bool:=(decide (0<=pp));let p0:Bool:=(true&&(b2==true));let b9:Bool:=(b2&&(ki != pp));let p1:Bool:=(true&&(b9==false));let b12:Bool:=(pp==-2);let p2:Bool:=(p1&&(b12==true));let b19:Bool:=(b9||(b12&&(decide (ki<1))));let p3:Bool:=(true&&(b19==false));let b22:Bool:=(pp==-1);let p4:Bool:=(p3&&(b22==true));let b32:Bool:=(b19||(b22&&(ki != ni)));let p5:Bool:=(true&&(b32==false));let b35:Bool:=(decide (0<=pn));let p6:Bool:=(p5&&(b35==true));let b42:Bool:=(b32||(b35&&(ni != 0)));let p7:Bool:=(true&&(b42==false));let b49:Bool:=(b42||(ti != pt));let p8:Bool:=(true&&(b49==false));let b56:Bool:=(b49||(!Sx.sd qs x.s));let p9:Bool:=(true&&(b56==false));[IsF (.int .i64 pp),IsF (.bool (decide (0<=pp))),IsF (.bool (decide (0<=pp))),IsF (gv p0 (.pointer (some ⟨L,6,none⟩))),IsF (gv p0 (.slice Ap k cp)),IsF (gv p0 (.int .i64 ki)),IsF (gv p0 (.int .i64 pp)),IsF (gv p0 (.bool (ki != pp))),IsF (.bool (b2&&(ki != pp))),IsF (.bool (b2&&(ki != pp))),IsF (gv p1 (.int .i64 pp)),IsF (gv p1 (.bool (pp==-2))),IsF (gv p1 (.bool (pp==-2))),IsF (gv p2 (.pointer (some ⟨L,6,none⟩))),IsF (gv p2 (.slice Ap k cp)),IsF (gv p2 (.int .i64 ki)),IsF (gv p2 (.bool (decide (ki<1)))),IsF (gv p1 (.bool (b12&&(decide (ki<1))))),IsF (.bool (b9||(b12&&(decide (ki<1))))),IsF (.bool (b9||(b12&&(decide (ki<1))))),IsF (gv p3 (.int .i64 pp)),IsF (gv p3 (.bool (pp==-1))),IsF (gv p3 (.bool (pp==-1))),IsF (gv p4 (.pointer (some ⟨L,6,none⟩))),IsF (gv p4 (.slice Ap k cp)),IsF (gv p4 (.int .i64 ki)),IsF (gv p4 (.pointer (some ⟨L,5,none⟩))),IsF (gv p4 (.slice An nl cn)),IsF (gv p4 (.int .i64 ni)),IsF (gv p4 (.bool (ki != ni))),IsF (gv p3 (.bool (b22&&(ki != ni)))),IsF (.bool (b19||(b22&&(ki != ni)))),IsF (.bool (b19||(b22&&(ki != ni)))),IsF (gv p5 (.int .i64 pn)),IsF (gv p5 (.bool (decide (0<=pn)))),IsF (gv p5 (.bool (decide (0<=pn)))),IsF (gv p6 (.pointer (some ⟨L,5,none⟩))),IsF (gv p6 (.slice An nl cn)),IsF (gv p6 (.int .i64 ni)),IsF (gv p6 (.bool (ni != 0))),IsF (gv p5 (.bool (b35&&(ni != 0)))),IsF (.bool (b32||(b35&&(ni != 0)))),IsF (.bool (b32||(b35&&(ni != 0)))),IsF (gv p7 (.pointer (some ⟨L,4,none⟩))),IsF (gv p7 (.slice At tl ct)),IsF (gv p7 (.int .i64 ti)),IsF (gv p7 (.int .i64 pt)),IsF (gv p7 (.bool (ti != pt))),IsF (.bool (b42||(ti != pt))),IsF (.bool (b42||(ti != pt))),IsF (gv p8 (.pointer (some ⟨L,3,none⟩))),IsF (gv p8 (.string ⟨x.s.toArray⟩)),IsF (gv p8 (.int .u8 qs)),IsF (gv p8 (.bool (Sx.sd qs x.s))),IsF (gv p8 (.bool (!Sx.sd qs x.s))),IsF (.bool (b49||(!Sx.sd qs x.s))),IsF (.bool (b49||(!Sx.sd qs x.s))),IsF (gv p9 (.pointer (some ⟨L,5,none⟩))),IsF (gv p9 (.slice An nl cn)),IsF (gv p9 (.bool (Sx.apart NM x.names))),IsF (gv p9 (.bool (!Sx.apart NM x.names))),IsF (.bool (b56||(!Sx.apart NM x.names)))])=F:=⟨_,rfl⟩;obtain⟨F0,F1,F2,F3,F4,F5,F6,F7,F8,F9,F10,F11,F12,F13,F14,F15,F16,F17,F18,F19,F20,F21,F22,F23,F24,F25,F26,F27,F28,F29,F30,F31,F32,F33,F34,F35,F36,F37,F38,F39,F40,F41,F42,F43,F44,F45,F46,F47,F48,F49,F50,F51,F52,F53,F54,F55,F56,F57,F58,F59,F60,F61,-⟩:=zcgZ hFs;have H3:AllStay StM Fs:=by rw[<-hFs];repeat first | exact .nil | refine .cons IsF.stays ?_
 clear hFs;have HB:=Bx.mk (P:= Tryz.prog) (I:=StI (fun X=>LW W X/\X.heap[L]? =some (.cells #[.int .i64 x.pos,.int .i64 kd,.int .i64 nn,.string ⟨x.s.toArray⟩,.slice At tl ct,.slice An nl cn,.slice Ap k cp] 39 (0,0)))) flX ldA fun _ w _=>(fun w h=>h.2) w;refine zwZ [] (StI (fun X=>LW W X/\X.heap[L]? =some (.cells #[.int .i64 x.pos,.int .i64 kd,.int .i64 nn,.string ⟨x.s.toArray⟩,.slice At tl ct,.slice An nl cn,.slice Ap k cp] 39 (0,0)))) StM Fs undef (by kernel_rfl) (by kernel_rfl) (by kernel_rfl) (by kernel_rfl) (by kernel_rfl) H3 (n:=62) (by kernel_rfl) (hS0) ?_ ?_
 ·repeat' first | refine OpsOk.cons ?_ ?_ | fail
  ·exact .m F0 (.n 5)
  ·exact .v1 F1 (.f 32 F0)
  ·exact .m F2 (.f 33 F1)
  ·exact .gfl HB (g0 F2) F3 (.n 2)
  ·exact .gld HB (g0 F2) F4 (.g 35 F3)
  ·exact .gv1 (g0 F2) F5 (.g 36 F4)
  ·exact .gm (g0 F2) F6 (.n 5)
  ·exact .gv2 (g0 F2) F7 (.g 37 F5) (.g 38 F6)
  ·exact .pA F8 (.f 34 F2) (.g 39 F7)
  ·exact .m F9 (.f 40 F8)
  ·exact .gm (g0 F9) F10 (.n 5)
  ·exact .gv1 (g0 F9) F11 (.g 42 F10)
  ·exact .gm (g0 F9) F12 (.g 43 F11)
  ·exact .gfl HB F12 F13 (.n 2)
  ·exact .gld HB F12 F14 (.g 45 F13)
  ·exact .gv1 F12 F15 (.g 46 F14)
  ·exact .gv1 F12 F16 (.g 47 F15)
  ·exact .gpA (g0 F9) F17 (.g 44 F12) (.g 48 F16)
  ·exact .pO F18 (.f 41 F9) (.g 49 F17)
  ·exact .m F19 (.f 50 F18)
  ·exact .gm (g0 F19) F20 (.n 5)
  ·exact .gv1 (g0 F19) F21 (.g 52 F20)
  ·exact .gm (g0 F19) F22 (.g 53 F21)
  ·exact .gfl HB F22 F23 (.n 2)
  ·exact .gld HB F22 F24 (.g 55 F23)
  ·exact .gv1 F22 F25 (.g 56 F24)
  ·exact .gfl HB F22 F26 (.n 2)
  ·exact .gld HB F22 F27 (.g 58 F26)
  ·exact .gv1 F22 F28 (.g 59 F27)
  ·exact .gv2 F22 F29 (.g 57 F25) (.g 60 F28)
  ·exact .gpA (g0 F19) F30 (.g 54 F22) (.g 61 F29)
  ·exact .pO F31 (.f 51 F19) (.g 62 F30)
  ·exact .m F32 (.f 63 F31)
  ·exact .gm (g0 F32) F33 (.n 6)
  ·exact .gv1 (g0 F32) F34 (.g 65 F33)
  ·exact .gm (g0 F32) F35 (.g 66 F34)
  ·exact .gfl HB F35 F36 (.n 2)
  ·exact .gld HB F35 F37 (.g 68 F36)
  ·exact .gv1 F35 F38 (.g 69 F37)
  ·exact .gv1 F35 F39 (.g 70 F38)
  ·exact .gpA (g0 F32) F40 (.g 67 F35) (.g 71 F39)
  ·exact .pO F41 (.f 64 F32) (.g 72 F40)
  ·exact .m F42 (.f 73 F41)
  ·exact .gfl HB (g0 F42) F43 (.n 2)
  ·exact .gld HB (g0 F42) F44 (.g 75 F43)
  ·exact .gv1 (g0 F42) F45 (.g 76 F44)
  ·exact .gm (g0 F42) F46 (.n 7)
  ·exact .gv2 (g0 F42) F47 (.g 77 F45) (.g 78 F46)
  ·exact .pO F48 (.f 74 F42) (.g 79 F47)
  ·exact .m F49 (.f 80 F48)
  ·exact .gfl HB (g0 F49) F50 (.n 2)
  ·exact .gld HB (g0 F49) F51 (.g 82 F50)
  ·exact .gm (g0 F49) F52 (.n 8)
  ·exact OpOk.gcall (args:=#[.string ⟨x.s.toArray⟩,.int .u8 qs]) rfl (by kernel_rfl) (by kernel_rfl) (g0 F49) F53 Ha.o rfl Tryz.func74 (by kernel_rfl) rfl (fun hp ρ w r ka E=>by simp only[yIZ,yPZ,yRZ,(show ρ (.tmp 83)=.string ⟨x.s.toArray⟩from(E.e 83 51 (by kernel_rfl) F51).trans (zbaZ hp)),(show ρ (.tmp 84)=.int .u8 qs from(E.e 84 52 (by kernel_rfl) F52).trans (zbaZ hp))]) fun hp w hS=>J0.o w hS.1
  ·exact .gv1 (g0 F49) F54 (.g 85 F53)
  ·exact .pO F55 (.f 81 F49) (.g 86 F54)
  ·exact .m F56 (.f 87 F55)
  ·exact .gfl HB (g0 F56) F57 (.n 2)
  ·exact .gld HB (g0 F56) F58 (.g 89 F57)
  ·exact OpOk.gcall (args:=#[.slice An nl cn]) rfl (by kernel_rfl) (by kernel_rfl) (g0 F56) F59 Ha.o rfl Tryz.func68 (by kernel_rfl) rfl (fun hp ρ w r ka E=>by simp only[yIZ,yPZ,yRZ,(show ρ (.tmp 90)=.slice An nl cn from(E.e 90 58 (by kernel_rfl) F58).trans (zbaZ hp))]) fun hp w hS=>Hw.o w hS.1
  ·exact .gv1 (g0 F56) F60 (.g 91 F59)
  ·exact .pO F61 (.f 88 F56) (.g 92 F60)
  ·exact .nil
 ·intro uq wq rq hI hF;have hSz:=hI;have f61:uq 61=.bool ((((((((decide (0<=pp))&&(ki != pp))||((pp==-2)&&(decide (ki<1))))||((pp==-1)&&(ki != ni)))||((decide (0<=pn))&&(ni != 0)))||(ti != pt))||(!Sx.sd qs x.s))||(!Sx.apart NM x.names)):=zbqZ F61 (hF 61 (by decide));simp only[yyZ,fillAct,Act.put,yoZ,yzZ,yAZ,f61];clear hI hF F0 F1 F2 F3 F4 F5 F6 F7 F8 F9 F10 F11 F12 F13 F14 F15 F16 F17 F18 F19 F20 F21 F22 F23 F24 F25 F26 F27 F28 F29 F30 F31 F32 F33 F34 F35 F36 F37 F38 F39 F40 F41 F42 F43 F44 F45 F46 F47 F48 F49 F50 F51 F52 F53 F54 F55 F56 F57 F58 F59 F60 F61 H3 f61;rw[Hi.o];have Hl:=zh hSz;clear hSz;obtain⟨x0,x1,x2,x3,x4,x5,x6⟩:=zbZ Hl.o.2;have Hc:=zaZ Hl.o.2
  cases hA:Sx.okA kd x.s tl x.names k with
  | false=>have HF:=zh (show Sx.rightX NM (d+1) x=false by rw[Hh.o,Ho.o,hA];rfl);clear hA;go_wp2_with fail;go_ret;exact⟨by rw[HF.o];rfl,Hl.o.1⟩
  | true=>
   have HA:=zh hA;clear hA;go_upto_region 6 with fail
   clear x0 x1 x2 x3 x4 x5 x6 Hc;have hS1:=Hl.o;obtain⟨Fs,hFs⟩:∃F:List (Value->World->Value->Nat->Prop),(let b3:Bool:=(nn != 0);let p0:Bool:=(true&&(b3==true));let b7:Bool:=(kd != 1);let p1:Bool:=(p0&&(b7==true));let b12:Bool:=(b7&&(kd != 3));let p2:Bool:=(p0&&(b12==false));let b17:Bool:=(b12||(decide (nn<0)));let p3:Bool:=(p0&&(b17==false));let b21:Bool:=(kd==3);let p4:Bool:=(p3&&(b21==true));[IsF (.pointer (some ⟨L,2,none⟩)),IsF (.int .i64 nn),IsF (.bool (nn != 0)),IsF (.bool (nn != 0)),IsF (gv p0 (.pointer (some ⟨L,1,none⟩))),IsF (gv p0 (.int .i64 kd)),IsF (gv p0 (.bool (kd != 1))),IsF (gv p0 (.bool (kd != 1))),IsF (gv p1 (.pointer (some ⟨L,1,none⟩))),IsF (gv p1 (.int .i64 kd)),IsF (gv p1 (.bool (kd != 3))),IsF (gv p0 (.bool (b7&&(kd != 3)))),IsF (gv p0 (.bool (b7&&(kd != 3)))),IsF (gv p2 (.pointer (some ⟨L,2,none⟩))),IsF (gv p2 (.int .i64 nn)),IsF (gv p2 (.bool (decide (nn<0)))),IsF (gv p0 (.bool (b12||(decide (nn<0))))),IsF (gv p0 (.bool (b12||(decide (nn<0))))),IsF (gv p3 (.pointer (some ⟨L,1,none⟩))),IsF (gv p3 (.int .i64 kd)),IsF (gv p3 (.bool (kd==3))),IsF (gv p3 (.bool (kd==3))),IsF (gv p4 (.pointer (some ⟨L,2,none⟩))),IsF (gv p4 (.int .i64 nn)),IsF (gv p4 (.bool (decide (1<nn)))),IsF (gv p3 (.bool (b21&&(decide (1<nn))))),IsF (gv p0 (.bool (b17||(b21&&(decide (1<nn)))))),IsF (.bool (b3&&(b17||(b21&&(decide (1<nn))))))])=F:=⟨_,rfl⟩;obtain⟨F0,F1,F2,F3,F4,F5,F6,F7,F8,F9,F10,F11,F12,F13,F14,F15,F16,F17,F18,F19,F20,F21,F22,F23,F24,F25,F26,F27,-⟩:=zcgZ hFs;have H3:AllStay StM Fs:=(by rw[<-hFs];repeat first | exact .nil | refine .cons IsF.stays ?_);clear hFs;have HB:=Bx.mk (P:= Tryz.prog) (I:=StI (fun X=>LW W X/\X.heap[L]? =some (.cells #[.int .i64 x.pos,.int .i64 kd,.int .i64 nn,.string ⟨x.s.toArray⟩,.slice At tl ct,.slice An nl cn,.slice Ap k cp] 39 (0,0)))) flX ldA fun _ w _=>(fun w h=>h.2) w;refine zwZ [] (StI (fun X=>LW W X/\X.heap[L]? =some (.cells #[.int .i64 x.pos,.int .i64 kd,.int .i64 nn,.string ⟨x.s.toArray⟩,.slice At tl ct,.slice An nl cn,.slice Ap k cp] 39 (0,0)))) StM Fs undef (by kernel_rfl) (by kernel_rfl) (by kernel_rfl) (by kernel_rfl) (by kernel_rfl) H3 (n:=28) (by kernel_rfl) (hS1) ?_ ?_
   ·repeat' first | refine OpsOk.cons ?_ ?_ | fail
    ·exact .fl HB F0 (.n 2)
    ·exact .ld HB F1 (.f 94 F0)
    ·exact .v1 F2 (.f 95 F1)
    ·exact .m F3 (.f 96 F2)
    ·exact .gfl HB (g0 F3) F4 (.n 2)
    ·exact .gld HB (g0 F3) F5 (.g 98 F4)
    ·exact .gv1 (g0 F3) F6 (.g 99 F5)
    ·exact .gm (g0 F3) F7 (.g 100 F6)
    ·exact .gfl HB F7 F8 (.n 2)
    ·exact .gld HB F7 F9 (.g 102 F8)
    ·exact .gv1 F7 F10 (.g 103 F9)
    ·exact .gpA (g0 F3) F11 (.g 101 F7) (.g 104 F10)
    ·exact .gm (g0 F3) F12 (.g 105 F11)
    ·exact .gfl HB F12 F13 (.n 2)
    ·exact .gld HB F12 F14 (.g 107 F13)
    ·exact .gv1 F12 F15 (.g 108 F14)
    ·exact .gpO (g0 F3) F16 (.g 106 F12) (.g 109 F15)
    ·exact .gm (g0 F3) F17 (.g 110 F16)
    ·exact .gfl HB F17 F18 (.n 2)
    ·exact .gld HB F17 F19 (.g 112 F18)
    ·exact .gv1 F17 F20 (.g 113 F19)
    ·exact .gm F17 F21 (.g 114 F20)
    ·exact .gfl HB F21 F22 (.n 2)
    ·exact .gld HB F21 F23 (.g 116 F22)
    ·exact .gv1 F21 F24 (.g 117 F23)
    ·exact .gpA F17 F25 (.g 115 F21) (.g 118 F24)
    ·exact .gpO (g0 F3) F26 (.g 111 F17) (.g 119 F25)
    ·exact .pA F27 (.f 97 F3) (.g 120 F26)
    ·exact .nil
   ·intro uq wq rq hI hF;have hSz:=hI;have f27:uq 27=.bool ((nn != 0)&&((((kd != 1)&&(kd != 3))||(decide (nn<0)))||((kd==3)&&(decide (1<nn))))):=zbqZ F27 (hF 27 (by decide));simp only[yyZ,fillAct,Act.put,yoZ,yzZ,yAZ,f27];clear hI hF F0 F1 F2 F3 F4 F5 F6 F7 F8 F9 F10 F11 F12 F13 F14 F15 F16 F17 F18 F19 F20 F21 F22 F23 F24 F25 F26 F27 H3 f27;rw[Ht.o];have He:=zh hSz;clear hSz Hr hni Hq;obtain⟨x0,x1,x2,x3,x4,x5,x6⟩:=zbZ He.o.2;have Hc:=zaZ He.o.2
    cases hN:Sx.okN kd nn with
    | false=>have HF:=zh (show Sx.rightX NM (d+1) x=false by rw[Hh.o,Ho.o,HA.o,hN];rfl);clear hN;go_wp2_with fail;go_ret;exact⟨by rw[HF.o];rfl,He.o.1⟩
    | true=>
     have Hb:=zh (show Sx.rightX NM (d+1) x=(Sx.rightTs NM 64 x.t&&Sx.rightXs NM (if Sx.flat kd then d+1 else d) d x.parts)by rw[Hh.o,Ho.o,HA.o,hN];simp);clear hN x0 x1 x2 x3 x4 x5 x6 Hc;obtain⟨y0,y1,y2,y3,y4,y5,y6⟩:=zbZ He.o.2;have Jd:=zaZ He.o.2;go_wp2_with fail;clear y0 y1 y2 y3 y4 y5 y6 Jd;go_loopg [9] tl (fun n v wr=>∃i:Nat,n=tl-i/\v=.int .i64 (i:Nat)/\i<=tl/\(∀(j:Nat) (h:j<x.t.length),j<i->Sx.rightT NM 64 (x.t[j]'h)=true)/\(fun X=>LW W X/\X.heap[L]? =some (.cells #[.int .i64 x.pos,.int .i64 kd,.int .i64 nn,.string ⟨x.s.toArray⟩,.slice At tl ct,.slice An nl cn,.slice Ap k cp] 39 (0,0))) wr)
     case atStart=>exact⟨0,rfl,rfl,yxZ _,fun j h hj=>by omega,He.o⟩
     case round=>
      obtain⟨i,hn,rfl,hi,hr,hs⟩:=hrel;have HI:=zh hn;have HR:=zh hr;have HS:=zh hs;have i0:(0:Int)<=(i:Int):=(by omega);have i1:(i:Int)<=1000000:=(by omega);clear hn hr hs;obtain⟨x0,x1,x2,x3,x4,x5,x6⟩:=zbZ HS.o.2;have Hc:=zaZ HS.o.2;by_cases hlt:i<tl
      ·have Hp:(i:Int)<(tl:Int):=(by omega);have H7:i<x.t.length:=(by have:=Hs.o;omega);obtain⟨g,off,An1,cn1,Ae1,ce1,Aq,cq,rfl,hty,hc5⟩:=HT.o.spot i H7;have H4:=yfZ H7
       have Hf:=zh (fun(hh:Sx.rightT NM 64 (x.t[i]'H7)=true) j (h:j<x.t.length) (hj:j<i+1)=>(show Sx.rightT NM 64 (x.t[j]'h)=true by
        by_cases hji:j<i
        ·exact HR.o j h hji
        ·obtain rfl:j=i:=by omega
         exact hh))
       have Hg:=zh (fun(hh:Sx.rightT NM 64 (x.t[i]'H7)=false)=>(show Sx.rightTs NM 64 x.t=false by
        cases hq:Sx.rightTs NM 64 x.t with
        | false=>rfl
        | true=>have:=(Sx.rightTs_iff x.t).1 hq i H7;rw[hh]at this;cases this))
       obtain⟨p,hpe⟩:=zE (x.t[i]'H7);rw[hpe]at hty hc5 H4 Hf Hg;have Hk:=zh (fun X (hX:LW W X)=>(zibZ 64 (ybZ _) p _ X X hX.self (IsTy.below hX.b _ _ hty) (Jc.o p H4)).mono fun e w2 h=>(show e=.returned (.bool (Sx.rightT NM 64 p))/\Below X.heap.size X w2 from⟨h.1,h.2.b⟩));obtain⟨hg,c0,c1,c2,c3,c4⟩:=hc5 wr HS.o.1.b;clear hty hc5 H4 hpe;go_wp2_with fail
       cases hb:Sx.rightT NM 64 p with
       | false=>rw[hb]at Hk;have HF:=zh (show Sx.rightX NM (d+1) x=false by rw[Hb.o,Hg.o hb];rfl);clear hb;refine(Hk.o wr HS.o.1).mono ?_;rintro e w5 ⟨rfl,H0⟩;have H5:=zh (Ha.o _ _ HS.o H0);clear H0;go_wp2_with fail;go_ret;exact⟨by rw[HF.o];rfl,H5.o.1⟩
       | true=>
        rw[hb]at Hk;have Jf:=zh (Hf.o hb);clear hb;refine(Hk.o wr HS.o.1).mono ?_;rintro e w5 ⟨rfl,H0⟩;have H5:=zh (Ha.o _ _ HS.o H0);clear H0;go_wp2_with fail;go_roundg (tl-(i+1))
        case measure=>have:=HI.o;omega
        case rel=>exact⟨i+1,rfl,by simp,hlt,Jf.o,H5.o⟩
      ·have Hp:¬(i:Int)<(tl:Int):=(by omega);have J6:=zh (show Sx.rightTs NM 64 x.t=true from(Sx.rightTs_iff x.t).2 fun j h=>HR.o j h (by have:=Hs.o;omega));go_wp2_with fail;clear x0 x1 x2 x3 x4 x5 x6 Hc;have Jg:=HS;have Hd:=zh (fun w=>zqsZ kd w HQ.o.1 HQ.o.2);obtain⟨fl,hfl⟩:=zE (Sx.flat kd);rw[hfl]at Hb Hd;clear hfl;go_loopg [10,11] k (fun n v v11 wz=>∃m:Nat,n=k-m/\v=.int .i64 (m:Nat)/\m<=k/\(∀(j:Nat) (h:j<x.parts.length),j<m->Sx.rightX NM (if j=0 then(if fl then d+1 else d)else d) (x.parts[j]'h)=true)/\(fun X=>LW W X/\X.heap[L]? =some (.cells #[.int .i64 x.pos,.int .i64 kd,.int .i64 nn,.string ⟨x.s.toArray⟩,.slice At tl ct,.slice An nl cn,.slice Ap k cp] 39 (0,0))) wz)
       case atStart=>exact⟨0,rfl,rfl,yxZ _,fun j h hj=>by omega,Jg.o⟩
       case round=>
        obtain⟨m,hn,rfl,hm,hr,hs⟩:=hrel;have HM:=zh hn;have J1:=zh hr;have H8:=zh hs;have m0:(0:Int)<=(m:Int):=(by omega);have m1:(m:Int)<=1000000:=(by omega);clear hn hr hs;obtain⟨x0,x1,x2,x3,x4,x5,x6⟩:=zbZ H8.o.2;have Hc:=zaZ H8.o.2;by_cases hlt:m<k
        ·have Hp:(m:Int)<(k:Int):=(by omega);have H7:m<x.parts.length:=(by have:=HK.o;omega);obtain⟨g,off,Atp,ctp,Anp,cnp,App,cpp,rfl,hty,hc5⟩:=HP.o.spot m H7;have H4:=yfZ H7
         have Hf:=zh (fun(hh:Sx.rightX NM (if m=0 then(if fl then d+1 else d)else d) (x.parts[m]'H7)=true) j (h:j<x.parts.length) (hj:j<m+1)=>(show Sx.rightX NM (if j=0 then(if fl then d+1 else d)else d) (x.parts[j]'h)=true by
          by_cases hji:j<m
          ·exact J1.o j h hji
          ·obtain rfl:j=m:=by omega
           exact hh))
         have Hg:=zh (fun(hh:Sx.rightX NM (if m=0 then(if fl then d+1 else d)else d) (x.parts[m]'H7)=false)=>(show Sx.rightXs NM (if fl then d+1 else d) d x.parts=false by
          cases hq:Sx.rightXs NM (if fl then d+1 else d) d x.parts with
          | false=>rfl
          | true=>have:=(Sx.rightXs_iff x.parts _ _).1 hq m H7;rw[hh]at this;cases this))
         obtain⟨p,hpe⟩:=zE (x.parts[m]'H7);rw[hpe]at hty hc5 H4 Hf Hg;have Hz:=zh (fun(dd:Nat) (hdd:dd<=64) X (hX:LW W X)=>((J2.o p H4).2 dd _ X X hdd hX.self (IsEx.below hX.b _ _ hty) (J2.o p H4).1).mono fun e w2 h=>(show e=.returned (.bool (Sx.rightX NM dd p))/\Below X.heap.size X w2 from⟨h.1,h.2.b⟩));obtain⟨hg,c0,c1,c2,c3,c4,c5,c6⟩:=hc5 wr H8.o.1.b;clear hty hc5 H4 hpe
         have KEY:=zh (show ∀(dd:Nat) (z:Int),(dd=if m=0 then(if fl then d+1 else d)else d)->((dd:Nat):Int)=z->Calls Tryz.prog 33 #[.agg #[.int .i64 p.pos,.int .i64 p.kind,.int .i64 p.n,.string ⟨p.s.toArray⟩,.slice Atp p.t.length ctp,.slice Anp p.names.length cnp,.slice App p.parts.length cpp],.int .i64 z] wr fun e w2=>e=.returned (.bool (Sx.rightX NM dd p))/\Below wr.heap.size wr w2 from fun dd z h1 h2=>by
          rw[<-h2]
          exact Hz.o dd (by have:=J9.o;rw[h1];split;split;all_goals omega) wr H8.o.1)
         have H1:=zh (show ∀dd,(dd=if m=0 then(if fl then d+1 else d)else d)->(Sx.rightX NM dd p=true->∀j (h:j<x.parts.length),j<m+1->Sx.rightX NM (if j=0 then(if fl then d+1 else d)else d) (x.parts[j]'h)=true)/\(Sx.rightX NM dd p=false->Sx.rightX NM (d+1) x=false)from fun dd h1=>by
          subst h1
          exact⟨fun h=>Hf.o h,fun h=>by rw[Hb.o,J6.o,Hg.o h];rfl⟩)
         clear Hf Hg Hz;by_cases hmz:m=0
         ·have Jb:((m:Int)==0)=true:=(by subst hmz;rfl);have Hj:=zh hmz;clear hmz
          cases fl with
          | true=>
           have HC:=zh (H1.o (d+1) (by simp[Hj.o]));have H6:=zh (KEY.o (d+1) (e) (by simp[Hj.o]) Je.o);clear H1 KEY
           cases hbb:Sx.rightX NM (d+1) p with
           | true=>
            rw[hbb]at H6;have H9:=zh (HC.o.1 hbb);clear hbb;go_wp2_with (first | (go_at_call 75;refine(Hd.o wr).mono ?_;rintro e w3 ⟨rfl,rfl⟩) | (go_at_call 33;refine H6.o.mono ?_;rintro e w5 ⟨rfl,H0⟩;have H5:=zh (Ha.o _ _ H8.o H0);clear H0));go_roundg (k-(m+1))
            case measure=>have:=HM.o;omega
            case rel=>exact⟨m+1,rfl,by simp,hlt,H9.o,H5.o⟩
           | false=>rw[hbb]at H6;have H9:=zh (HC.o.2 hbb);clear hbb;go_wp2_with (first | (go_at_call 75;refine(Hd.o wr).mono ?_;rintro e w3 ⟨rfl,rfl⟩) | (go_at_call 33;refine H6.o.mono ?_;rintro e w5 ⟨rfl,H0⟩;have H5:=zh (Ha.o _ _ H8.o H0);clear H0));go_ret;exact⟨by rw[H9.o];rfl,H5.o.1⟩
          | false=>
           have HC:=zh (H1.o (d) (by simp[Hj.o]));have H6:=zh (KEY.o (d) (e-1) (by simp[Hj.o]) J7.o.symm);clear H1 KEY
           cases hbb:Sx.rightX NM (d) p with
           | true=>
            rw[hbb]at H6;have H9:=zh (HC.o.1 hbb);clear hbb;go_wp2_with (first | (go_at_call 75;refine(Hd.o wr).mono ?_;rintro e w3 ⟨rfl,rfl⟩) | (go_at_call 33;refine H6.o.mono ?_;rintro e w5 ⟨rfl,H0⟩;have H5:=zh (Ha.o _ _ H8.o H0);clear H0));go_roundg (k-(m+1))
            case measure=>have:=HM.o;omega
            case rel=>exact⟨m+1,rfl,by simp,hlt,H9.o,H5.o⟩
           | false=>rw[hbb]at H6;have H9:=zh (HC.o.2 hbb);clear hbb;go_wp2_with (first | (go_at_call 75;refine(Hd.o wr).mono ?_;rintro e w3 ⟨rfl,rfl⟩) | (go_at_call 33;refine H6.o.mono ?_;rintro e w5 ⟨rfl,H0⟩;have H5:=zh (Ha.o _ _ H8.o H0);clear H0));go_ret;exact⟨by rw[H9.o];rfl,H5.o.1⟩
         ·have Jb:((m:Int)==0)=false:=(by rw[yaZ];omega);have HC:=zh (H1.o (d) (by simp[hmz]));have H6:=zh (KEY.o (d) (e-1) (by simp[hmz]) J7.o.symm);clear H1 KEY
          cases hbb:Sx.rightX NM (d) p with
          | true=>
           rw[hbb]at H6;have H9:=zh (HC.o.1 hbb);clear hbb;go_wp2_with (first | (go_at_call 75;refine(Hd.o wr).mono ?_;rintro e w3 ⟨rfl,rfl⟩) | (go_at_call 33;refine H6.o.mono ?_;rintro e w5 ⟨rfl,H0⟩;have H5:=zh (Ha.o _ _ H8.o H0);clear H0));go_roundg (k-(m+1))
           case measure=>have:=HM.o;omega
           case rel=>exact⟨m+1,rfl,by simp,hlt,H9.o,H5.o⟩
          | false=>rw[hbb]at H6;have H9:=zh (HC.o.2 hbb);clear hbb;go_wp2_with (first | (go_at_call 75;refine(Hd.o wr).mono ?_;rintro e w3 ⟨rfl,rfl⟩) | (go_at_call 33;refine H6.o.mono ?_;rintro e w5 ⟨rfl,H0⟩;have H5:=zh (Ha.o _ _ H8.o H0);clear H0));go_ret;exact⟨by rw[H9.o];rfl,H5.o.1⟩
        ·have Hp:¬(m:Int)<(k:Int):=by omega
         have HF:=zh (show Sx.rightX NM (d+1) x=true by
          rw[Hb.o,J6.o,(Sx.rightXs_iff x.parts _ _).2 fun j h=>J1.o j h (by have:=HK.o;omega)]
          rfl)
         go_wp2_with fail
         go_ret;exact⟨by rw[HF.o];rfl,H8.o.1⟩
theorem zjzZ:∀(n:Nat) (x:Sx.Ex),Sx.sizeX x<=n->RefXOk x
 | 0,x,h=>by have:=Sx.sizeX_pos x;omega
 | n+1,x,h=>zoyZ x fun p hp=>zjzZ n p (by
   have:=Sx.sizeX_mem hp;have:=Sx.sizeX_parts x
   omega)
end Go.Proofs.YtdncljdfmdgdaaaGreatDoor
