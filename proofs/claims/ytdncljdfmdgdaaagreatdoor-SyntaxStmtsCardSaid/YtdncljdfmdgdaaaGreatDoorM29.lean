/-
  The walk of coilref2.RightExpr.
-/
import Derived.Test.YtdncljdfmdgdaaaGreatDoorM1
import Derived.Test.YtdncljdfmdgdaaaGreatDoorM27
import Derived.Test.YtdncljdfmdgdaaaGreatDoorM28
import Derived.Test.YtdncljdfmdgdaaaGreatDoorM9
import Derived.Test.YtdncljdfmdgdaaaGreatDoorM18
import Derived.Test.YtdncljdfmdgdaaaGreatDoorM16
import Derived.Test.YtdncljdfmdgdaaaGreatDoorM11
set_option linter.unusedSimpArgs false
set_option linter.unusedVariables false
set_option maxRecDepth 100000
set_option maxHeartbeats 16000000
namespace Go.Proofs.YtdncljdfmdgdaaaGreatDoor
open Go.RowKit Go.Shelf
attribute [local go_sem] opWp zoZ zvZ zpZ
def Sx.okA (k:Int) (s:Lx.Bytes) (tl:Nat) (ns:List Lx.Bytes) (m:Nat):Bool:=
 (if Sx.shP k=-1 then m==ns.length else ns.isEmpty&&(if Sx.shP k=-2 then decide (1<=m)else decide ((m:Int)=Sx.shP k)))&&(decide ((tl:Int)=Sx.shT k)&&(Sx.sd (Sx.shS k) s&&Sx.apart NM ns))
def Sx.okN (k n:Int):Bool:=decide (n=0)||(decide (k=1/\0<=n)||decide (k=3/\0<=n/\n<=1))
theorem Sx.said_all (s:Lx.Bytes):NM.said s=s.all Lx.saidB:=by
 show isTok 5 s=_;rw[<-zgsZ,(Lx.one_written (t:=⟨0,5,s,0⟩) (by show(0:Int)<=_;decide)).1,Lx.text_written]
theorem Sx.shapeX_split {k n:Int} {s:Lx.Bytes} {t:List Sx.Ty} {ns:List Lx.Bytes} {m:Nat} (h1:1<=k) (h2:k<=21):Sx.shapeX NM k n s t ns m=(Sx.okA k s t.length ns m&&(Sx.okN k n&&Sx.rightTs NM 64 t)):=by
 have hk:k=1\/k=2\/k=3\/k=4\/k=5\/k=6\/k=7\/k=8\/k=9\/k=10\/k=11\/k=12\/k=13\/k=14\/k=15\/k=16\/k=17\/k=18\/k=19\/k=20\/k=21:=by omega
 have H0:∀z:Nat,decide ((m:Int)=(z:Int))=(m==z):=fun z=>by rw[yEZ];simp;omega
 have ht:∀z:Nat,decide (((z:Int)+1)=1)=(z==0):=fun z=>by rw[yEZ];simp;omega
 have e0:decide ((m:Int)=0)=(m==0):=H0 0;have e1:decide ((m:Int)=1)=(m==1):=H0 1;have e2:decide ((m:Int)=2)=(m==2):=H0 2;rcases hk with rfl | rfl | rfl | rfl | rfl | rfl | rfl | rfl | rfl | rfl | rfl | rfl | rfl | rfl | rfl | rfl | rfl | rfl | rfl | rfl | rfl
 all_goals
  cases ns <;> cases t <;> simp[Sx.shapeX,Sx.okA,Sx.okN,Sx.shP,Sx.shT,Sx.shS,Sx.sd,Sx.said_all,Sx.apart,Sx.rightTs,e0,e1,e2,ht,Bool.and_assoc,Bool.and_comm,Bool.and_left_comm]
 all_goals first | rfl | (intros;omega) | exact congrArg _ (congrArg _ (Bool.and_left_comm _ _ _))
def RefXOk (x:Sx.Ex):Prop:=∀(d:Nat) (v:Value) (w0 W:World),d<=64->LW w0 W->IsEx W v x->Sx.sizeX x<=1000000->
 Calls Tryz.prog 33 #[v,.int .i64 (d:Nat)] W fun e W'=>e=.returned (.bool (Sx.rightX NM d x))/\LW W W'
theorem Sx.rightXs_iff {N:Sx.Names} : ∀(l:List Sx.Ex) (d0 d:Nat),Sx.rightXs N d0 d l=true↔∀(i:Nat) (h:i<l.length),Sx.rightX N (if i=0 then d0 else d) (l[i]'h)=true
 | [],d0,d=>by simp[Sx.rightXs]
 | x::l,d0,d=>by
  rw[Sx.rightXs,ygZ,Sx.rightXs_iff l d d];constructor
  ·rintro⟨h1,h2⟩ i h
   cases i with
   | zero=>exact h1
   | succ i=>have:=h2 i (by simpa using h);rw[if_neg (by omega)];split at this <;> exact this
  ·intro h;refine⟨h 0 (yVZ _),fun i hi=>?_⟩;have:=h (i+1) (by simpa using hi);rw[if_neg (by omega)]at this;split <;> exact this
theorem Sx.rightTs_iff {N:Sx.Names} {d:Nat} : ∀(l:List Sx.Ty),Sx.rightTs N d l=true↔∀(i:Nat) (h:i<l.length),Sx.rightT N d (l[i]'h)=true
 | []=>by simp[Sx.rightTs]
 | x::l=>by
  rw[Sx.rightTs,ygZ,Sx.rightTs_iff l];constructor
  ·rintro⟨h1,h2⟩ i h
   cases i with
   | zero=>exact h1
   | succ i=>exact h2 i (by simpa using h)
  ·intro h;exact⟨h 0 (yVZ _),fun i hi=>h (i+1) (by simpa using hi)⟩
theorem refB4 (kd:Int) (s:Lx.Bytes) (tl:Nat) (ns:List Lx.Bytes) (k:Nat) (h1:1<=kd) (h2:kd<=21):((((((((decide (0<=(Sx.shP kd)))&&(((k:Nat):Int) != (Sx.shP kd)))||(((Sx.shP kd)==-2)&&(decide (((k:Nat):Int)<1))))||(((Sx.shP kd)==-1)&&(((k:Nat):Int) != ((ns.length:Nat):Int))))||((decide (0<=(Sx.shN kd)))&&(((ns.length:Nat):Int) != 0)))||(((tl:Nat):Int) != (Sx.shT kd)))||(!Sx.sd (Sx.shS kd) s))||(!Sx.apart NM ns))=!(Sx.okA kd s tl ns k):=by
 have hk:kd=1\/kd=2\/kd=3\/kd=4\/kd=5\/kd=6\/kd=7\/kd=8\/kd=9\/kd=10\/kd=11\/kd=12\/kd=13\/kd=14\/kd=15\/kd=16\/kd=17\/kd=18\/kd=19\/kd=20\/kd=21:=by omega
 have H0:ns.isEmpty=decide (ns.length=0):=by cases ns <;> simp
 unfold Sx.okA;rw[H0];generalize Sx.sd (Sx.shS kd) s=sb;generalize Sx.apart NM ns=ab;generalize ns.length=nn;rcases hk with rfl | rfl | rfl | rfl | rfl | rfl | rfl | rfl | rfl | rfl | rfl | rfl | rfl | rfl | rfl | rfl | rfl | rfl | rfl | rfl | rfl
 all_goals
  rw[yEZ];cases sb <;> cases ab <;> simp[Sx.shP,Sx.shN,Sx.shT]
 all_goals omega
theorem refB6 (kd nn:Int):((nn != 0)&&((((kd != 1)&&(kd != 3))||(decide (nn<0)))||((kd==3)&&(decide (1<nn)))))=!(Sx.okN kd nn):=by
 unfold Sx.okN;rw[yEZ];simp;omega
theorem zoyZ (x:Sx.Ex) (ih:∀p∈x.parts,RefXOk p):RefXOk x:=by
 intro d v w0 W hd h0 ht Hx;have hG:=h0.self;obtain⟨At,ct,An,cn,Ap,cp,rfl,htt,hnm,hp,hn0,hn1⟩:=ht.agg;have J1:=Sx.sizeX_parts x;have J0:=Sx.length_sizeXs x.parts;have J5:=Sx.length_size x.t;have J7:=fun s (hs:s∈x.names)=>Sx.nameX_len (t:=x) hs;obtain⟨nl,hnle⟩:=zE (x.names.length);obtain⟨tl,htl⟩:=zE (x.t.length);obtain⟨k,hk⟩:=zE (x.parts.length);obtain⟨kd,hkd⟩:=zE (x.kind);obtain⟨nn,hnn⟩:=zE (x.n);have Hh:=zh (show ∀d,Sx.rightX NM (d+1) x=(Sx.shapeX NM kd nn x.s x.t x.names k&&Sx.rightXs NM (if Sx.flat kd then d+1 else d) d x.parts)from fun d=>by rw[<-hkd,<-hnn,<-hk];cases x;rw[Sx.rightX];rfl);have J9:=zh hnm;rw[hnle]at hnm J1;rw[htl]at htt J5;rw[hk]at hp J0;rw[hkd,hnn,hnle,htl,hk];rw[hnn]at hn0 hn1;have k0:(0:Int)<=(k:Int):=by omega
 have k1:(k:Int)<=1000000:=by omega
 have t0:(0:Int)<=(tl:Int):=by omega
 have t1:(tl:Int)<=1000000:=by omega
 have HP:=zh hp;have HT:=zh htt;have J4:=zh (fun p (hp:p∈x.parts)=>(show Sx.sizeX p<=1000000/\RefXOk p from⟨by have:=Sx.sizeX_mem hp;omega,ih p hp⟩));have Ja:=zh (show ∀p∈x.t,Sx.size p<=1000000 from fun p hp=>by have:=Sx.size_mem hp;omega);have HK:=zh hk;have Ht:=zh htl;have Jh:=zh hnle;have Hz:=zh (fun X (hX:LW W X)=>(ziaZ hX x.names _ (J9.o.below hX.b) (by omega) (fun s hs=>by have:=J7 s hs;omega)).mono fun e w2 h=>(show e=.returned (.bool (Sx.apart NM x.names))/\Below X.heap.size X w2 from⟨h.1,h.2.b⟩));rw[hnle]at Hz;have Hr:=zh (fun c (hc:c=110\/c=84\/c=115\/c=45) X (hX:LW W X)=>(zucZ hX x.s (by omega) c hc).mono fun e w2 h=>(show e=.returned (.bool (Sx.sd c x.s))/\Below X.heap.size X w2 from⟨h.1,h.2.b⟩));obtain⟨L,hL⟩:=zE (W.heap.size);obtain⟨w2,hw2⟩:=zE (W.alloc (.cells #[.int .i64 x.pos,.int .i64 kd,.int .i64 nn,.string ⟨x.s.toArray⟩,.slice At tl ct,.slice An nl cn,.slice Ap k cp] 39));have hS2:(fun X=>LW W X/\X.heap[L]? =some (.cells #[.int .i64 x.pos,.int .i64 kd,.int .i64 nn,.string ⟨x.s.toArray⟩,.slice At tl ct,.slice An nl cn,.slice Ap k cp] 39 (0,0))) w2:=⟨by rw[<-hw2];exact hG.alloc _,by rw[<-hw2,<-hL];exact ydZ W _⟩;have H2:=zh hS2;have Ha:=zh (show ∀X X',(fun X=>LW W X/\X.heap[L]? =some (.cells #[.int .i64 x.pos,.int .i64 kd,.int .i64 nn,.string ⟨x.s.toArray⟩,.slice At tl ct,.slice An nl cn,.slice Ap k cp] 39 (0,0))) X->Below X.heap.size X X'->(fun X=>LW W X/\X.heap[L]? =some (.cells #[.int .i64 x.pos,.int .i64 kd,.int .i64 nn,.string ⟨x.s.toArray⟩,.slice At tl ct,.slice An nl cn,.slice Ap k cp] 39 (0,0))) X' from fun X X2 h hb=>⟨h.1.go hb,(hb.block _ (zaZ h.2)).trans h.2⟩);obtain⟨x0,x1,x2,x3,x4,x5,x6⟩:=zbZ hS2.2;have Hc:=zaZ hS2.2;clear ht htt hnm hp hn0 hn1 J1 J0 J5 J7 hnle htl hk hkd hnn ih Hx h0 hG hS2
 cases d with
 | zero=>
  go_enter Tryz.func33, Tryz.ntmps33
  go_wp2_with fail
  go_ret;exact⟨by cases x;rfl,H2.o.1⟩
 | succ d=>
 obtain⟨e,he⟩:∃e:Int,((d+1:Nat):Int)=e:=⟨_,rfl⟩;have Jk:(e==0)=false:=by rw[yaZ];omega
 have Ji:1<=e/\e<=64:=by omega
 have Jn:IntKind.i64.wrap (e-1)=e-1:=by rw[yQZ];omega
 have J3:=zh (show e-1=((d:Nat):Int)by omega);have Jb:=zh he;have Jc:=zh hd;rw[he];clear he hd;by_cases hk1:kd<1
 ·have HF:=zh (show Sx.rightX NM (d+1) x=false by rw[Hh.o];unfold Sx.shapeX;rw[decide_eq_false (by omega)];rfl);go_enter Tryz.func33, Tryz.ntmps33;go_wp2_with fail;go_ret;exact⟨by rw[HF.o];rfl,H2.o.1⟩
 by_cases hk2:21<kd
 ·have HF:=zh (show Sx.rightX NM (d+1) x=false by rw[Hh.o];unfold Sx.shapeX;rw[decide_eq_false (by omega)];rfl);go_enter Tryz.func33, Tryz.ntmps33;go_wp2_with fail;go_ret;exact⟨by rw[HF.o];rfl,H2.o.1⟩
 have Hn:1<=kd:=by omega
 have Hl:kd<=21:=by omega
 have Hi:=refB4 kd x.s tl x.names k Hn Hl;have Hu:=refB6 kd nn;have Hk:=zh (Sx.shapeX_split (n:=nn) (s:=x.s) (t:=x.t) (ns:=x.names) (m:=k) Hn Hl);rw[Ht.o]at Hk;rw[Jh.o]at Hi;have J8:Sx.shS kd=110\/Sx.shS kd=84\/Sx.shS kd=115\/Sx.shS kd=45:=by unfold Sx.shS;split;omega;split;omega;split <;> omega
 have Hv:=zh (Hr.o (Sx.shS kd) J8);have Hw:=zh (zubZ kd w2 Hn Hl);obtain⟨pp,hpp⟩:=zE (Sx.shP kd);obtain⟨pn,hpn⟩:=zE (Sx.shN kd);obtain⟨pt,hpt⟩:=zE (Sx.shT kd);obtain⟨qs,hqs⟩:=zE (Sx.shS kd);obtain⟨ki,Hs⟩:∃q:Int,((k:Nat):Int)=q:=⟨_,rfl⟩;obtain⟨ni,hni⟩:∃q:Int,((nl:Nat):Int)=q:=⟨_,rfl⟩;obtain⟨ti,Hp⟩:∃q:Int,((tl:Nat):Int)=q:=⟨_,rfl⟩;rw[hpp,hpn,hpt,hqs,Hs,hni,Hp]at Hi;rw[hqs]at Hv;rw[hpp,hpn,hpt,hqs]at Hw;have Hi:=zh Hi;have Hu:=zh Hu;have HQ:=zh (And.intro Hn Hl);clear hpp hpn hpt hqs J8;go_enter Tryz.func33, Tryz.ntmps33;go_upto_region 4 with(go_at_call 73;refine Hw.o.mono ?_;rintro e w3 ⟨rfl,rfl⟩)
 clear x0 x1 x2 x3 x4 x5 x6 Hc;have hS0:=H2.o;obtain⟨Fs,hFs⟩:∃F:List (Value->World->Value->Nat->Prop),(let b2:Bool:=(decide (0<=pp));let p0:Bool:=(true&&(b2==true));let b9:Bool:=(b2&&(ki != pp));let p1:Bool:=(true&&(b9==false));let b12:Bool:=(pp==-2);let p2:Bool:=(p1&&(b12==true));let b19:Bool:=(b9||(b12&&(decide (ki<1))));let p3:Bool:=(true&&(b19==false));let b22:Bool:=(pp==-1);let p4:Bool:=(p3&&(b22==true));let b32:Bool:=(b19||(b22&&(ki != ni)));let p5:Bool:=(true&&(b32==false));let b35:Bool:=(decide (0<=pn));let p6:Bool:=(p5&&(b35==true));let b42:Bool:=(b32||(b35&&(ni != 0)));let p7:Bool:=(true&&(b42==false));let b49:Bool:=(b42||(ti != pt));let p8:Bool:=(true&&(b49==false));let b56:Bool:=(b49||(!Sx.sd qs x.s));let p9:Bool:=(true&&(b56==false));[IsF (.int .i64 pp),IsF (.bool (decide (0<=pp))),IsF (.bool (decide (0<=pp))),IsF (gv p0 (.pointer (some ⟨L,6,none⟩))),IsF (gv p0 (.slice Ap k cp)),IsF (gv p0 (.int .i64 ki)),IsF (gv p0 (.int .i64 pp)),IsF (gv p0 (.bool (ki != pp))),IsF (.bool (b2&&(ki != pp))),IsF (.bool (b2&&(ki != pp))),IsF (gv p1 (.int .i64 pp)),IsF (gv p1 (.bool (pp==-2))),IsF (gv p1 (.bool (pp==-2))),IsF (gv p2 (.pointer (some ⟨L,6,none⟩))),IsF (gv p2 (.slice Ap k cp)),IsF (gv p2 (.int .i64 ki)),IsF (gv p2 (.bool (decide (ki<1)))),IsF (gv p1 (.bool (b12&&(decide (ki<1))))),IsF (.bool (b9||(b12&&(decide (ki<1))))),IsF (.bool (b9||(b12&&(decide (ki<1))))),IsF (gv p3 (.int .i64 pp)),IsF (gv p3 (.bool (pp==-1))),IsF (gv p3 (.bool (pp==-1))),IsF (gv p4 (.pointer (some ⟨L,6,none⟩))),IsF (gv p4 (.slice Ap k cp)),IsF (gv p4 (.int .i64 ki)),IsF (gv p4 (.pointer (some ⟨L,5,none⟩))),IsF (gv p4 (.slice An nl cn)),IsF (gv p4 (.int .i64 ni)),IsF (gv p4 (.bool (ki != ni))),IsF (gv p3 (.bool (b22&&(ki != ni)))),IsF (.bool (b19||(b22&&(ki != ni)))),IsF (.bool (b19||(b22&&(ki != ni)))),IsF (gv p5 (.int .i64 pn)),IsF (gv p5 (.bool (decide (0<=pn)))),IsF (gv p5 (.bool (decide (0<=pn)))),IsF (gv p6 (.pointer (some ⟨L,5,none⟩))),IsF (gv p6 (.slice An nl cn)),IsF (gv p6 (.int .i64 ni)),IsF (gv p6 (.bool (ni != 0))),IsF (gv p5 (.bool (b35&&(ni != 0)))),IsF (.bool (b32||(b35&&(ni != 0)))),IsF (.bool (b32||(b35&&(ni != 0)))),IsF (gv p7 (.pointer (some ⟨L,4,none⟩))),IsF (gv p7 (.slice At tl ct)),IsF (gv p7 (.int .i64 ti)),IsF (gv p7 (.int .i64 pt)),IsF (gv p7 (.bool (ti != pt))),IsF (.bool (b42||(ti != pt))),IsF (.bool (b42||(ti != pt))),IsF (gv p8 (.pointer (some ⟨L,3,none⟩))),IsF (gv p8 (.string ⟨x.s.toArray⟩)),IsF (gv p8 (.int .u8 qs)),IsF (gv p8 (.bool (Sx.sd qs x.s))),IsF (gv p8 (.bool (!Sx.sd qs x.s))),IsF (.bool (b49||(!Sx.sd qs x.s))),IsF (.bool (b49||(!Sx.sd qs x.s))),IsF (gv p9 (.pointer (some ⟨L,5,none⟩))),IsF (gv p9 (.slice An nl cn)),IsF (gv p9 (.bool (Sx.apart NM x.names))),IsF (gv p9 (.bool (!Sx.apart NM x.names))),IsF (.bool (b56||(!Sx.apart NM x.names)))])=F:=⟨_,rfl⟩;obtain⟨F0,F1,F2,F3,F4,F5,F6,F7,F8,F9,F10,F11,F12,F13,F14,F15,F16,F17,F18,F19,F20,F21,F22,F23,F24,F25,F26,F27,F28,F29,F30,F31,F32,F33,F34,F35,F36,F37,F38,F39,F40,F41,F42,F43,F44,F45,F46,F47,F48,F49,F50,F51,F52,F53,F54,F55,F56,F57,F58,F59,F60,F61,-⟩:=zcgZ hFs;have H4:AllStay StM Fs:=by rw[<-hFs];repeat first | exact .nil | refine .cons IsF.stays ?_
 clear hFs;have HB:=Bx.mk (P:= Tryz.prog) (I:=StI (fun X=>LW W X/\X.heap[L]? =some (.cells #[.int .i64 x.pos,.int .i64 kd,.int .i64 nn,.string ⟨x.s.toArray⟩,.slice At tl ct,.slice An nl cn,.slice Ap k cp] 39 (0,0)))) flX ldA fun _ w _=>(fun w h=>h.2) w;refine zwZ [] (StI (fun X=>LW W X/\X.heap[L]? =some (.cells #[.int .i64 x.pos,.int .i64 kd,.int .i64 nn,.string ⟨x.s.toArray⟩,.slice At tl ct,.slice An nl cn,.slice Ap k cp] 39 (0,0)))) StM Fs undef (by kernel_rfl) (by kernel_rfl) (by kernel_rfl) (by kernel_rfl) (by kernel_rfl) H4 (n:=62) (by kernel_rfl) (hS0) ?_ ?_
 ·repeat' first | refine OpsOk.cons ?_ ?_ | fail
  ·exact .m F0 (.n 5)
  ·exact .v1 F1 (.f 32 F0)
  ·exact .m F2 (.f 33 F1)
  ·exact .gfl HB (g0 F2) F3 (.n 2)
  ·exact .gld HB (g0 F2) F4 (.g 35 F3)
  ·exact .gv1 (g0 F2) F5 (.g 36 F4)
  ·exact .gm (g0 F2) F6 (.n 5)
  ·exact .gv2 (g0 F2) F7 (.g 37 F5) (.g 38 F6)
  ·exact .pA F8 (.f 34 F2) (.g 39 F7)
  ·exact .m F9 (.f 40 F8)
  ·exact .gm (g0 F9) F10 (.n 5)
  ·exact .gv1 (g0 F9) F11 (.g 42 F10)
  ·exact .gm (g0 F9) F12 (.g 43 F11)
  ·exact .gfl HB F12 F13 (.n 2)
  ·exact .gld HB F12 F14 (.g 45 F13)
  ·exact .gv1 F12 F15 (.g 46 F14)
  ·exact .gv1 F12 F16 (.g 47 F15)
  ·exact .gpA (g0 F9) F17 (.g 44 F12) (.g 48 F16)
  ·exact .pO F18 (.f 41 F9) (.g 49 F17)
  ·exact .m F19 (.f 50 F18)
  ·exact .gm (g0 F19) F20 (.n 5)
  ·exact .gv1 (g0 F19) F21 (.g 52 F20)
  ·exact .gm (g0 F19) F22 (.g 53 F21)
  ·exact .gfl HB F22 F23 (.n 2)
  ·exact .gld HB F22 F24 (.g 55 F23)
  ·exact .gv1 F22 F25 (.g 56 F24)
  ·exact .gfl HB F22 F26 (.n 2)
  ·exact .gld HB F22 F27 (.g 58 F26)
  ·exact .gv1 F22 F28 (.g 59 F27)
  ·exact .gv2 F22 F29 (.g 57 F25) (.g 60 F28)
  ·exact .gpA (g0 F19) F30 (.g 54 F22) (.g 61 F29)
  ·exact .pO F31 (.f 51 F19) (.g 62 F30)
  ·exact .m F32 (.f 63 F31)
  ·exact .gm (g0 F32) F33 (.n 6)
  ·exact .gv1 (g0 F32) F34 (.g 65 F33)
  ·exact .gm (g0 F32) F35 (.g 66 F34)
  ·exact .gfl HB F35 F36 (.n 2)
  ·exact .gld HB F35 F37 (.g 68 F36)
  ·exact .gv1 F35 F38 (.g 69 F37)
  ·exact .gv1 F35 F39 (.g 70 F38)
  ·exact .gpA (g0 F32) F40 (.g 67 F35) (.g 71 F39)
  ·exact .pO F41 (.f 64 F32) (.g 72 F40)
  ·exact .m F42 (.f 73 F41)
  ·exact .gfl HB (g0 F42) F43 (.n 2)
  ·exact .gld HB (g0 F42) F44 (.g 75 F43)
  ·exact .gv1 (g0 F42) F45 (.g 76 F44)
  ·exact .gm (g0 F42) F46 (.n 7)
  ·exact .gv2 (g0 F42) F47 (.g 77 F45) (.g 78 F46)
  ·exact .pO F48 (.f 74 F42) (.g 79 F47)
  ·exact .m F49 (.f 80 F48)
  ·exact .gfl HB (g0 F49) F50 (.n 2)
  ·exact .gld HB (g0 F49) F51 (.g 82 F50)
  ·exact .gm (g0 F49) F52 (.n 8)
  ·exact OpOk.gcall (args:=#[.string ⟨x.s.toArray⟩,.int .u8 qs]) rfl (by kernel_rfl) (by kernel_rfl) (g0 F49) F53 Ha.o rfl Tryz.func74 (by kernel_rfl) rfl (fun hp ρ w r ka E=>by simp only[yIZ,yPZ,yRZ,(show ρ (.tmp 83)=.string ⟨x.s.toArray⟩from(E.e 83 51 (by kernel_rfl) F51).trans (zbaZ hp)),(show ρ (.tmp 84)=.int .u8 qs from(E.e 84 52 (by kernel_rfl) F52).trans (zbaZ hp))]) fun hp w hS=>Hv.o w hS.1
  ·exact .gv1 (g0 F49) F54 (.g 85 F53)
  ·exact .pO F55 (.f 81 F49) (.g 86 F54)
  ·exact .m F56 (.f 87 F55)
  ·exact .gfl HB (g0 F56) F57 (.n 2)
  ·exact .gld HB (g0 F56) F58 (.g 89 F57)
  ·exact OpOk.gcall (args:=#[.slice An nl cn]) rfl (by kernel_rfl) (by kernel_rfl) (g0 F56) F59 Ha.o rfl Tryz.func68 (by kernel_rfl) rfl (fun hp ρ w r ka E=>by simp only[yIZ,yPZ,yRZ,(show ρ (.tmp 90)=.slice An nl cn from(E.e 90 58 (by kernel_rfl) F58).trans (zbaZ hp))]) fun hp w hS=>Hz.o w hS.1
  ·exact .gv1 (g0 F56) F60 (.g 91 F59)
  ·exact .pO F61 (.f 88 F56) (.g 92 F60)
  ·exact .nil
 ·intro uq wq rq hI hF;have hSz:=hI;have f61:uq 61=.bool ((((((((decide (0<=pp))&&(ki != pp))||((pp==-2)&&(decide (ki<1))))||((pp==-1)&&(ki != ni)))||((decide (0<=pn))&&(ni != 0)))||(ti != pt))||(!Sx.sd qs x.s))||(!Sx.apart NM x.names)):=zbqZ F61 (hF 61 (by decide));simp only[yyZ,fillAct,Act.put,yoZ,yzZ,yAZ,f61];clear hI hF F0 F1 F2 F3 F4 F5 F6 F7 F8 F9 F10 F11 F12 F13 F14 F15 F16 F17 F18 F19 F20 F21 F22 F23 F24 F25 F26 F27 F28 F29 F30 F31 F32 F33 F34 F35 F36 F37 F38 F39 F40 F41 F42 F43 F44 F45 F46 F47 F48 F49 F50 F51 F52 F53 F54 F55 F56 F57 F58 F59 F60 F61 H4 f61;rw[Hi.o];have Ho:=zh hSz;clear hSz;obtain⟨x0,x1,x2,x3,x4,x5,x6⟩:=zbZ Ho.o.2;have Hc:=zaZ Ho.o.2
  cases hA:Sx.okA kd x.s tl x.names k with
  | false=>have HF:=zh (show Sx.rightX NM (d+1) x=false by rw[Hh.o,Hk.o,hA];rfl);clear hA;go_wp2_with fail;go_ret;exact⟨by rw[HF.o];rfl,Ho.o.1⟩
  | true=>
   have HA:=zh hA;clear hA;go_upto_region 6 with fail
   clear x0 x1 x2 x3 x4 x5 x6 Hc;have hS1:=Ho.o;obtain⟨Fs,hFs⟩:∃F:List (Value->World->Value->Nat->Prop),(let b3:Bool:=(nn != 0);let p0:Bool:=(true&&(b3==true));let b7:Bool:=(kd != 1);let p1:Bool:=(p0&&(b7==true));let b12:Bool:=(b7&&(kd != 3));let p2:Bool:=(p0&&(b12==false));let b17:Bool:=(b12||(decide (nn<0)));let p3:Bool:=(p0&&(b17==false));let b21:Bool:=(kd==3);let p4:Bool:=(p3&&(b21==true));[IsF (.pointer (some ⟨L,2,none⟩)),IsF (.int .i64 nn),IsF (.bool (nn != 0)),IsF (.bool (nn != 0)),IsF (gv p0 (.pointer (some ⟨L,1,none⟩))),IsF (gv p0 (.int .i64 kd)),IsF (gv p0 (.bool (kd != 1))),IsF (gv p0 (.bool (kd != 1))),IsF (gv p1 (.pointer (some ⟨L,1,none⟩))),IsF (gv p1 (.int .i64 kd)),IsF (gv p1 (.bool (kd != 3))),IsF (gv p0 (.bool (b7&&(kd != 3)))),IsF (gv p0 (.bool (b7&&(kd != 3)))),IsF (gv p2 (.pointer (some ⟨L,2,none⟩))),IsF (gv p2 (.int .i64 nn)),IsF (gv p2 (.bool (decide (nn<0)))),IsF (gv p0 (.bool (b12||(decide (nn<0))))),IsF (gv p0 (.bool (b12||(decide (nn<0))))),IsF (gv p3 (.pointer (some ⟨L,1,none⟩))),IsF (gv p3 (.int .i64 kd)),IsF (gv p3 (.bool (kd==3))),IsF (gv p3 (.bool (kd==3))),IsF (gv p4 (.pointer (some ⟨L,2,none⟩))),IsF (gv p4 (.int .i64 nn)),IsF (gv p4 (.bool (decide (1<nn)))),IsF (gv p3 (.bool (b21&&(decide (1<nn))))),IsF (gv p0 (.bool (b17||(b21&&(decide (1<nn)))))),IsF (.bool (b3&&(b17||(b21&&(decide (1<nn))))))])=F:=⟨_,rfl⟩;obtain⟨F0,F1,F2,F3,F4,F5,F6,F7,F8,F9,F10,F11,F12,F13,F14,F15,F16,F17,F18,F19,F20,F21,F22,F23,F24,F25,F26,F27,-⟩:=zcgZ hFs;have H4:AllStay StM Fs:=(by rw[<-hFs];repeat first | exact .nil | refine .cons IsF.stays ?_);clear hFs;have HB:=Bx.mk (P:= Tryz.prog) (I:=StI (fun X=>LW W X/\X.heap[L]? =some (.cells #[.int .i64 x.pos,.int .i64 kd,.int .i64 nn,.string ⟨x.s.toArray⟩,.slice At tl ct,.slice An nl cn,.slice Ap k cp] 39 (0,0)))) flX ldA fun _ w _=>(fun w h=>h.2) w;refine zwZ [] (StI (fun X=>LW W X/\X.heap[L]? =some (.cells #[.int .i64 x.pos,.int .i64 kd,.int .i64 nn,.string ⟨x.s.toArray⟩,.slice At tl ct,.slice An nl cn,.slice Ap k cp] 39 (0,0)))) StM Fs undef (by kernel_rfl) (by kernel_rfl) (by kernel_rfl) (by kernel_rfl) (by kernel_rfl) H4 (n:=28) (by kernel_rfl) (hS1) ?_ ?_
   ·repeat' first | refine OpsOk.cons ?_ ?_ | fail
    ·exact .fl HB F0 (.n 2)
    ·exact .ld HB F1 (.f 94 F0)
    ·exact .v1 F2 (.f 95 F1)
    ·exact .m F3 (.f 96 F2)
    ·exact .gfl HB (g0 F3) F4 (.n 2)
    ·exact .gld HB (g0 F3) F5 (.g 98 F4)
    ·exact .gv1 (g0 F3) F6 (.g 99 F5)
    ·exact .gm (g0 F3) F7 (.g 100 F6)
    ·exact .gfl HB F7 F8 (.n 2)
    ·exact .gld HB F7 F9 (.g 102 F8)
    ·exact .gv1 F7 F10 (.g 103 F9)
    ·exact .gpA (g0 F3) F11 (.g 101 F7) (.g 104 F10)
    ·exact .gm (g0 F3) F12 (.g 105 F11)
    ·exact .gfl HB F12 F13 (.n 2)
    ·exact .gld HB F12 F14 (.g 107 F13)
    ·exact .gv1 F12 F15 (.g 108 F14)
    ·exact .gpO (g0 F3) F16 (.g 106 F12) (.g 109 F15)
    ·exact .gm (g0 F3) F17 (.g 110 F16)
    ·exact .gfl HB F17 F18 (.n 2)
    ·exact .gld HB F17 F19 (.g 112 F18)
    ·exact .gv1 F17 F20 (.g 113 F19)
    ·exact .gm F17 F21 (.g 114 F20)
    ·exact .gfl HB F21 F22 (.n 2)
    ·exact .gld HB F21 F23 (.g 116 F22)
    ·exact .gv1 F21 F24 (.g 117 F23)
    ·exact .gpA F17 F25 (.g 115 F21) (.g 118 F24)
    ·exact .gpO (g0 F3) F26 (.g 111 F17) (.g 119 F25)
    ·exact .pA F27 (.f 97 F3) (.g 120 F26)
    ·exact .nil
   ·intro uq wq rq hI hF;have hSz:=hI;have f27:uq 27=.bool ((nn != 0)&&((((kd != 1)&&(kd != 3))||(decide (nn<0)))||((kd==3)&&(decide (1<nn))))):=zbqZ F27 (hF 27 (by decide));simp only[yyZ,fillAct,Act.put,yoZ,yzZ,yAZ,f27];clear hI hF F0 F1 F2 F3 F4 F5 F6 F7 F8 F9 F10 F11 F12 F13 F14 F15 F16 F17 F18 F19 F20 F21 F22 F23 F24 F25 F26 F27 H4 f27;rw[Hu.o];have Hg:=zh hSz;clear hSz Hs hni Hp;obtain⟨x0,x1,x2,x3,x4,x5,x6⟩:=zbZ Hg.o.2;have Hc:=zaZ Hg.o.2
    cases hN:Sx.okN kd nn with
    | false=>have HF:=zh (show Sx.rightX NM (d+1) x=false by rw[Hh.o,Hk.o,HA.o,hN];rfl);clear hN;go_wp2_with fail;go_ret;exact⟨by rw[HF.o];rfl,Hg.o.1⟩
    | true=>
     have Hb:=zh (show Sx.rightX NM (d+1) x=(Sx.rightTs NM 64 x.t&&Sx.rightXs NM (if Sx.flat kd then d+1 else d) d x.parts)by rw[Hh.o,Hk.o,HA.o,hN];simp);clear hN x0 x1 x2 x3 x4 x5 x6 Hc;obtain⟨y0,y1,y2,y3,y4,y5,y6⟩:=zbZ Hg.o.2;have Jg:=zaZ Hg.o.2;go_wp2_with fail;clear y0 y1 y2 y3 y4 y5 y6 Jg;go_loopg [9] tl (fun n v wr=>∃i:Nat,n=tl-i/\v=.int .i64 (i:Nat)/\i<=tl/\(∀(j:Nat) (h:j<x.t.length),j<i->Sx.rightT NM 64 (x.t[j]'h)=true)/\(fun X=>LW W X/\X.heap[L]? =some (.cells #[.int .i64 x.pos,.int .i64 kd,.int .i64 nn,.string ⟨x.s.toArray⟩,.slice At tl ct,.slice An nl cn,.slice Ap k cp] 39 (0,0))) wr)
     case atStart=>exact⟨0,rfl,rfl,yxZ _,fun j h hj=>by omega,Hg.o⟩
     case round=>
      obtain⟨i,hn,rfl,hi,hr,hs⟩:=hrel;have HI:=zh hn;have HR:=zh hr;have HS:=zh hs;have i0:(0:Int)<=(i:Int):=(by omega);have i1:(i:Int)<=1000000:=(by omega);clear hn hr hs;obtain⟨x0,x1,x2,x3,x4,x5,x6⟩:=zbZ HS.o.2;have Hc:=zaZ HS.o.2;by_cases hlt:i<tl
      ·have Hq:(i:Int)<(tl:Int):=(by omega);have H7:i<x.t.length:=(by have:=Ht.o;omega);obtain⟨g,off,An1,cn1,Ae1,ce1,Aq,cq,rfl,hty,hc5⟩:=HT.o.spot i H7;have H3:=yfZ H7;have He:=zh (fun(hh:Sx.rightT NM 64 (x.t[i]'H7)=true) j (h:j<x.t.length) (hj:j<i+1)=>(show Sx.rightT NM 64 (x.t[j]'h)=true by
        by_cases hji:j<i
        ·exact HR.o j h hji
        ·obtain rfl:j=i:=(by omega);exact hh))
       have Hf:=zh (fun(hh:Sx.rightT NM 64 (x.t[i]'H7)=false)=>(show Sx.rightTs NM 64 x.t=false by
        cases hq:Sx.rightTs NM 64 x.t with
        | false=>rfl
        | true=>have:=(Sx.rightTs_iff x.t).1 hq i H7;rw[hh]at this;cases this))
       obtain⟨p,hpe⟩:=zE (x.t[i]'H7);rw[hpe]at hty hc5 H3 He Hf;have Hj:=zh (fun X (hX:LW W X)=>(zibZ 64 (ybZ _) p _ X X hX.self (IsTy.below hX.b _ _ hty) (Ja.o p H3)).mono fun e w2 h=>(show e=.returned (.bool (Sx.rightT NM 64 p))/\Below X.heap.size X w2 from⟨h.1,h.2.b⟩));obtain⟨hg,c0,c1,c2,c3,c4⟩:=hc5 wr HS.o.1.b;clear hty hc5 H3 hpe;go_wp2_with fail
       cases hb:Sx.rightT NM 64 p with
       | false=>rw[hb]at Hj;have HF:=zh (show Sx.rightX NM (d+1) x=false by rw[Hb.o,Hf.o hb];rfl);clear hb;refine(Hj.o wr HS.o.1).mono ?_;rintro e w5 ⟨rfl,H0⟩;have H5:=zh (Ha.o _ _ HS.o H0);clear H0;go_wp2_with fail;go_ret;exact⟨by rw[HF.o];rfl,H5.o.1⟩
       | true=>
        rw[hb]at Hj;have Jd:=zh (He.o hb);clear hb;refine(Hj.o wr HS.o.1).mono ?_;rintro e w5 ⟨rfl,H0⟩;have H5:=zh (Ha.o _ _ HS.o H0);clear H0;go_wp2_with fail;go_roundg (tl-(i+1))
        case measure=>have:=HI.o;omega
        case rel=>exact⟨i+1,rfl,by simp,hlt,Jd.o,H5.o⟩
      ·have Hq:¬(i:Int)<(tl:Int):=(by omega);have Hy:=zh (show Sx.rightTs NM 64 x.t=true from(Sx.rightTs_iff x.t).2 fun j h=>HR.o j h (by have:=Ht.o;omega));go_wp2_with fail;clear x0 x1 x2 x3 x4 x5 x6 Hc;have Je:=HS;have Hd:=zh (fun w=>zqsZ kd w HQ.o.1 HQ.o.2);obtain⟨fl,hfl⟩:=zE (Sx.flat kd);rw[hfl]at Hb Hd;clear hfl;go_loopg [10,11] k (fun n v v11 wz=>∃m:Nat,n=k-m/\v=.int .i64 (m:Nat)/\m<=k/\(∀(j:Nat) (h:j<x.parts.length),j<m->Sx.rightX NM (if j=0 then(if fl then d+1 else d)else d) (x.parts[j]'h)=true)/\(fun X=>LW W X/\X.heap[L]? =some (.cells #[.int .i64 x.pos,.int .i64 kd,.int .i64 nn,.string ⟨x.s.toArray⟩,.slice At tl ct,.slice An nl cn,.slice Ap k cp] 39 (0,0))) wz)
       case atStart=>exact⟨0,rfl,rfl,yxZ _,fun j h hj=>by omega,Je.o⟩
       case round=>
        obtain⟨m,hn,rfl,hm,hr,hs⟩:=hrel;have HM:=zh hn;have J6:=zh hr;have H9:=zh hs;have m0:(0:Int)<=(m:Int):=(by omega);have m1:(m:Int)<=1000000:=(by omega);clear hn hr hs;obtain⟨x0,x1,x2,x3,x4,x5,x6⟩:=zbZ H9.o.2;have Hc:=zaZ H9.o.2;by_cases hlt:m<k
        ·have Hq:(m:Int)<(k:Int):=(by omega);have H7:m<x.parts.length:=(by have:=HK.o;omega);obtain⟨g,off,Atp,ctp,Anp,cnp,App,cpp,rfl,hty,hc5⟩:=HP.o.spot m H7;have H3:=yfZ H7;have He:=zh (fun(hh:Sx.rightX NM (if m=0 then(if fl then d+1 else d)else d) (x.parts[m]'H7)=true) j (h:j<x.parts.length) (hj:j<m+1)=>(show Sx.rightX NM (if j=0 then(if fl then d+1 else d)else d) (x.parts[j]'h)=true by
          by_cases hji:j<m
          ·exact J6.o j h hji
          ·obtain rfl:j=m:=(by omega);exact hh))
         have Hf:=zh (fun(hh:Sx.rightX NM (if m=0 then(if fl then d+1 else d)else d) (x.parts[m]'H7)=false)=>(show Sx.rightXs NM (if fl then d+1 else d) d x.parts=false by
          cases hq:Sx.rightXs NM (if fl then d+1 else d) d x.parts with
          | false=>rfl
          | true=>have:=(Sx.rightXs_iff x.parts _ _).1 hq m H7;rw[hh]at this;cases this))
         obtain⟨p,hpe⟩:=zE (x.parts[m]'H7);rw[hpe]at hty hc5 H3 He Hf;have J2:=zh (fun(dd:Nat) (hdd:dd<=64) X (hX:LW W X)=>((J4.o p H3).2 dd _ X X hdd hX.self (IsEx.below hX.b _ _ hty) (J4.o p H3).1).mono fun e w2 h=>(show e=.returned (.bool (Sx.rightX NM dd p))/\Below X.heap.size X w2 from⟨h.1,h.2.b⟩));obtain⟨hg,c0,c1,c2,c3,c4,c5,c6⟩:=hc5 wr H9.o.1.b;clear hty hc5 H3 hpe;have KEY:=zh (show ∀(dd:Nat) (z:Int),(dd=if m=0 then(if fl then d+1 else d)else d)->((dd:Nat):Int)=z->Calls Tryz.prog 33 #[.agg #[.int .i64 p.pos,.int .i64 p.kind,.int .i64 p.n,.string ⟨p.s.toArray⟩,.slice Atp p.t.length ctp,.slice Anp p.names.length cnp,.slice App p.parts.length cpp],.int .i64 z] wr fun e w2=>e=.returned (.bool (Sx.rightX NM dd p))/\Below wr.heap.size wr w2 from fun dd z h1 h2=>by
          rw[<-h2];exact J2.o dd (by have:=Jc.o;rw[h1];split;split;all_goals omega) wr H9.o.1)
         have H1:=zh (show ∀dd,(dd=if m=0 then(if fl then d+1 else d)else d)->(Sx.rightX NM dd p=true->∀j (h:j<x.parts.length),j<m+1->Sx.rightX NM (if j=0 then(if fl then d+1 else d)else d) (x.parts[j]'h)=true)/\(Sx.rightX NM dd p=false->Sx.rightX NM (d+1) x=false)from fun dd h1=>by
          subst h1;exact⟨fun h=>He.o h,fun h=>by rw[Hb.o,Hy.o,Hf.o h];rfl⟩)
         clear He Hf J2;by_cases hmz:m=0
         ·have Jf:((m:Int)==0)=true:=(by subst hmz;rfl);have Hm:=zh hmz;clear hmz
          cases fl with
          | true=>
           have HC:=zh (H1.o (d+1) (by simp[Hm.o]));have H6:=zh (KEY.o (d+1) (e) (by simp[Hm.o]) Jb.o);clear H1 KEY
           cases hbb:Sx.rightX NM (d+1) p with
           | true=>
            rw[hbb]at H6;have H8:=zh (HC.o.1 hbb);clear hbb;go_wp2_with (first | (go_at_call 75;refine(Hd.o wr).mono ?_;rintro e w3 ⟨rfl,rfl⟩) | (go_at_call 33;refine H6.o.mono ?_;rintro e w5 ⟨rfl,H0⟩;have H5:=zh (Ha.o _ _ H9.o H0);clear H0));go_roundg (k-(m+1))
            case measure=>have:=HM.o;omega
            case rel=>exact⟨m+1,rfl,by simp,hlt,H8.o,H5.o⟩
           | false=>rw[hbb]at H6;have H8:=zh (HC.o.2 hbb);clear hbb;go_wp2_with (first | (go_at_call 75;refine(Hd.o wr).mono ?_;rintro e w3 ⟨rfl,rfl⟩) | (go_at_call 33;refine H6.o.mono ?_;rintro e w5 ⟨rfl,H0⟩;have H5:=zh (Ha.o _ _ H9.o H0);clear H0));go_ret;exact⟨by rw[H8.o];rfl,H5.o.1⟩
          | false=>
           have HC:=zh (H1.o (d) (by simp[Hm.o]));have H6:=zh (KEY.o (d) (e-1) (by simp[Hm.o]) J3.o.symm);clear H1 KEY
           cases hbb:Sx.rightX NM (d) p with
           | true=>
            rw[hbb]at H6;have H8:=zh (HC.o.1 hbb);clear hbb;go_wp2_with (first | (go_at_call 75;refine(Hd.o wr).mono ?_;rintro e w3 ⟨rfl,rfl⟩) | (go_at_call 33;refine H6.o.mono ?_;rintro e w5 ⟨rfl,H0⟩;have H5:=zh (Ha.o _ _ H9.o H0);clear H0));go_roundg (k-(m+1))
            case measure=>have:=HM.o;omega
            case rel=>exact⟨m+1,rfl,by simp,hlt,H8.o,H5.o⟩
           | false=>rw[hbb]at H6;have H8:=zh (HC.o.2 hbb);clear hbb;go_wp2_with (first | (go_at_call 75;refine(Hd.o wr).mono ?_;rintro e w3 ⟨rfl,rfl⟩) | (go_at_call 33;refine H6.o.mono ?_;rintro e w5 ⟨rfl,H0⟩;have H5:=zh (Ha.o _ _ H9.o H0);clear H0));go_ret;exact⟨by rw[H8.o];rfl,H5.o.1⟩
         ·have Jf:((m:Int)==0)=false:=(by rw[yaZ];omega);have HC:=zh (H1.o (d) (by simp[hmz]));have H6:=zh (KEY.o (d) (e-1) (by simp[hmz]) J3.o.symm);clear H1 KEY
          cases hbb:Sx.rightX NM (d) p with
          | true=>
           rw[hbb]at H6;have H8:=zh (HC.o.1 hbb);clear hbb;go_wp2_with (first | (go_at_call 75;refine(Hd.o wr).mono ?_;rintro e w3 ⟨rfl,rfl⟩) | (go_at_call 33;refine H6.o.mono ?_;rintro e w5 ⟨rfl,H0⟩;have H5:=zh (Ha.o _ _ H9.o H0);clear H0));go_roundg (k-(m+1))
           case measure=>have:=HM.o;omega
           case rel=>exact⟨m+1,rfl,by simp,hlt,H8.o,H5.o⟩
          | false=>rw[hbb]at H6;have H8:=zh (HC.o.2 hbb);clear hbb;go_wp2_with (first | (go_at_call 75;refine(Hd.o wr).mono ?_;rintro e w3 ⟨rfl,rfl⟩) | (go_at_call 33;refine H6.o.mono ?_;rintro e w5 ⟨rfl,H0⟩;have H5:=zh (Ha.o _ _ H9.o H0);clear H0));go_ret;exact⟨by rw[H8.o];rfl,H5.o.1⟩
        ·have Hq:¬(m:Int)<(k:Int):=(by omega);have HF:=zh (show Sx.rightX NM (d+1) x=true by
          rw[Hb.o,Hy.o,(Sx.rightXs_iff x.parts _ _).2 fun j h=>J6.o j h (by have:=HK.o;omega)];rfl)
         go_wp2_with fail
         go_ret;exact⟨by rw[HF.o];rfl,H9.o.1⟩
theorem zjzZ:∀(n:Nat) (x:Sx.Ex),Sx.sizeX x<=n->RefXOk x
 | 0,x,h=>by have:=Sx.sizeX_pos x;omega
 | n+1,x,h=>zoyZ x fun p hp=>zjzZ n p (by
   have:=Sx.sizeX_mem hp;have:=Sx.sizeX_parts x;omega)
theorem refS5 {e kd:Int} {x:List Sx.Ex} {rx:Bool} (he:(e==0)=false) (h:∀h:x.length=1,rx=Sx.rightX NM 64 (x[0]'(by omega))) {xi:Int} (hx:((x.length:Nat):Int)=xi) :
  (decide (1<=kd/\kd<=7)&&(x.length==1&&Sx.rightXs NM 64 64 x))=!(((((e==0)||(decide (kd<1)))||(decide (7<kd)))||(xi != 1))||(!rx)):=by
 subst hx;rw[he,yEZ];rcases x with _ | ⟨x0,_ | ⟨x1,xs⟩⟩
 ·simp
 ·have h1:=h rfl;simp at h1;subst h1;simp[Sx.rightXs]
  all_goals omega
 ·simp
  all_goals omega
theorem refS8 {kd:Int} {nm:Lx.Bytes} {t:List Sx.Ty} {nb ne sm rt:Bool} (hnb:nb=(kd==1||kd==2)) (hne:ne=!nm.isEmpty) (hsm:sm=NM.small nm) (h:∀h:t.length=1,rt=Sx.rightT NM 64 (t[0]'(by omega))) {ti:Int} (ht:((t.length:Nat):Int)=ti) :
  ((if kd=1\/kd=2 then NM.small nm else nm.isEmpty)&&(t.isEmpty||(decide (kd=1)&&(t.length==1&&Sx.rightTs NM 64 t))))=!((((nb != ne)||(nb&&(!sm)))||(decide (1<ti)))||((ti==1)&&((kd != 1)||(!rt)))):=by
 subst ht;have h0:sm=true->nm.isEmpty=false:=fun h=>by
  have:=NM.ok.small nm (by rw[<-hsm];exact h)
  cases nm with
  | nil=>exact absurd rfl this
  | cons a l=>rfl
 rw[<-hsm];subst hnb hne;generalize nm.isEmpty=em at *;by_cases hk:kd=1\/kd=2
 ·rw[if_pos hk];have H0:(kd==1||kd==2)=true:=(by simpa using hk);rw[H0];rcases t with _ | ⟨t0,_ | ⟨t1,ts⟩⟩
  ·cases em <;> cases sm <;> simp at h0 ⊢
  ·have h1:=h rfl;simp at h1;subst h1;rw[yEZ];cases em <;> cases sm <;> simp[Sx.rightTs]at h0 ⊢
  ·rw[yEZ];cases em <;> cases sm <;> simp at h0 ⊢ <;> omega
 ·rw[if_neg hk];have H0:(kd==1||kd==2)=false:=(by simpa using hk);rw[H0];rcases t with _ | ⟨t0,_ | ⟨t1,ts⟩⟩
  ·cases em <;> simp
  ·rw[yEZ];cases em <;> simp <;> omega
  ·rw[yEZ];cases em <;> simp <;> omega
theorem zydZ {kd:Int} {b e:List Sx.St} {rb re:Bool} {bi ei:Int} (hb:((b.length:Nat):Int)=bi) (he:((e.length:Nat):Int)=ei) :
  (((decide (kd=4\/kd=5)||b.isEmpty)&&(decide (kd=4)||e.isEmpty))&&(rb&&re))=!((((((decide (0<bi))&&(kd != 4))&&(kd != 5))||((decide (0<ei))&&(kd != 4)))||(!rb))||(!re)):=by
 subst hb he;rw[yEZ];cases b <;> cases e <;> cases rb <;> cases re <;> simp <;> omega
theorem Sx.rightS_ref (d:Nat) (s:Sx.St):Sx.rightS NM (d+1) s=((decide (1<=s.kind/\s.kind<=7)&&(s.x.length==1&&Sx.rightXs NM 64 64 s.x))&&(((if s.kind=1\/s.kind=2 then NM.small s.name else s.name.isEmpty)&&(s.t.isEmpty||(decide (s.kind=1)&&(s.t.length==1&&Sx.rightTs NM 64 s.t))))&&
  (((decide (s.kind=4\/s.kind=5)||s.body.isEmpty)&&(decide (s.kind=4)||s.els.isEmpty))&&(Sx.rightSs NM d s.body&&Sx.rightSs NM d s.els)))):=by
 cases s with
 | mk pos k nm t x b e=>rw[Sx.rightS];unfold Sx.shapeS;simp only[Bool.and_assoc];rfl
theorem Sx.rightSs_iff {N:Sx.Names} {d:Nat} : ∀(l:List Sx.St),Sx.rightSs N d l=true↔∀(i:Nat) (h:i<l.length),Sx.rightS N d (l[i]'h)=true
 | []=>by simp[Sx.rightSs]
 | x::l=>by
  rw[Sx.rightSs,ygZ,Sx.rightSs_iff l];constructor
  ·rintro⟨h1,h2⟩ i h
   cases i with
   | zero=>exact h1
   | succ i=>exact h2 i (by simpa using h)
  ·intro h;exact⟨h 0 (yVZ _),fun i hi=>h (i+1) (by simpa using hi)⟩
def RefSsOk (l:List Sx.St):Prop:=∀(d:Nat) (v:Value) (w0 W:World),d<=64->LW w0 W->StRow W v l->Sx.sizeSs l<=1000000->
 Calls Tryz.prog 38 #[v,.int .i64 (d:Nat)] W fun e W'=>e=.returned (.bool (Sx.rightSs NM d l))/\LW W W'
theorem znaZ (l:List Sx.St) (ih:∀s∈l,RefSsOk s.body/\RefSsOk s.els):RefSsOk l:=by
 intro d v w0 W hd h0 hv Hn;have hG:=h0.self;have J5:=Sx.length_sizeSs l;obtain⟨A1,c1,rfl,hca,hra⟩:=hv;have HV:=zh (show StRow W (.slice A1 l.length c1) l from⟨A1,c1,rfl,hca,hra⟩);obtain⟨k,hk⟩:=zE (l.length);rw[hk]at HV ⊢;have k0:(0:Int)<=(k:Int):=by omega
 have k1:(k:Int)<=1000000:=by omega
 obtain⟨e,he⟩:∃e:Int,((d:Nat):Int)=e:=⟨_,rfl⟩;rw[he];have Jc:IntKind.i64.wrap (e-1)=e-1:=by rw[yQZ];omega
 have H7:=zh (And.intro he hd);have HK:=zh hk;have J3:=zh Hn;have J6:=zh ih;have HG:=zh hG;clear hca hra J5 he hd hk Hn ih hG h0;go_enter Tryz.func38, Tryz.ntmps38;go_wp2_with fail;go_loopg [5,7] k (fun i v5 v7 wr=>∃m:Nat,i=k-m/\v5=.int .i64 (m:Int)/\m<=k/\(∀(j:Nat) (h:j<l.length),j<m->Sx.rightS NM d (l[j]'h)=true)/\LW W wr)
 case atStart=>exact⟨0,rfl,rfl,yxZ _,fun j h hj=>by omega,HG.o⟩
 case round=>
  obtain⟨m,hi,rfl,hm,hr,hb⟩:=hrel;have HI:=zh hi;have HR:=zh hr;have HB:=zh hb;have m0:(0:Int)<=(m:Int):=(by omega);clear hi hr hb;by_cases hlt:m<k
  ·have J1:(m:Int)<(k:Int):=(by omega);have H5:m<l.length:=(by have:=HK.o;omega);obtain⟨g,off,At,ct,Ax,cx,Ab,cb,Ae,ce,rfl,hty,hc5⟩:=HV.o.spot m H5;have Hj:=Sx.sizeS_mem (yfZ H5);have H3:=yfZ H5;have Hk:=zh (fun(hh:Sx.rightS NM d (l[m]'H5)=true) j (h:j<l.length) (hj:j<m+1)=>(show Sx.rightS NM d (l[j]'h)=true by
    by_cases hji:j<m
    ·exact HR.o j h hji
    ·obtain rfl:j=m:=(by omega);exact hh))
   have Ha:=zh (fun(hh:Sx.rightS NM d (l[m]'H5)=false)=>(show Sx.rightSs NM d l=false by
    cases hq:Sx.rightSs NM d l with
    | false=>rfl
    | true=>have:=(Sx.rightSs_iff l).1 hq m H5;rw[hh]at this;cases this))
   obtain⟨s,hse⟩:=zE (l[m]'H5);rw[hse]at hc5 hty Hj H3 Hk Ha;have J0:=Sx.sizeS_parts s;have Hf:=J3.o;have Hd:=J6.o s H3;have J8:=Sx.length_sizeXs s.x;have Hg:=Sx.length_size s.t;have Hv:=Sx.length_sizeSs s.body;have Hz:=Sx.length_sizeSs s.els;obtain⟨At',ct',Ax',cx',Ab',cb',Ae',ce',hagg,h1,h2,h3,h4⟩:=hty.agg;injection hagg with hagg;simp only[ykbZ,ygbZ,Value.slice.injEq,ymbZ,true_and]at hagg;obtain⟨⟨rfl,rfl⟩,⟨rfl,rfl⟩,⟨rfl,rfl⟩,⟨rfl,rfl⟩⟩:=hagg;obtain⟨rx,hrx⟩:∃r,∀h:s.x.length=1,r=Sx.rightX NM 64 (s.x[0]'(by omega)):=by
    by_cases h:s.x.length=1
    ·exact⟨Sx.rightX NM 64 (s.x[0]'(by omega)),fun _=>rfl⟩
    ·exact⟨false,fun h'=>absurd h' h⟩
   obtain⟨rt,hrt⟩:∃r,∀h:s.t.length=1,r=Sx.rightT NM 64 (s.t[0]'(by omega)):=by
    by_cases h:s.t.length=1
    ·exact⟨Sx.rightT NM 64 (s.t[0]'(by omega)),fun _=>rfl⟩
    ·exact⟨false,fun h'=>absurd h' h⟩
   obtain⟨gx,ox,p,Atp,ctp,Anp,cnp,App,cpp,hxf⟩:∃gx ox p Atp ctp Anp cnp App cpp,∀h:s.x.length=1,s.x[0]'(by omega)=p/\p∈s.x/\Ax=some ⟨gx,ox,none⟩/\IsEx W (.agg #[.int .i64 p.pos,.int .i64 p.kind,.int .i64 p.n,.string ⟨p.s.toArray⟩,.slice Atp p.t.length ctp,.slice Anp p.names.length cnp,.slice App p.parts.length cpp]) p/\∀X,Below W.heap.size W X->CellsEx X gx ox (.int .i64 p.pos) (.int .i64 p.kind) (.int .i64 p.n) (.string ⟨p.s.toArray⟩) (.slice Atp p.t.length ctp) (.slice Anp p.names.length cnp) (.slice App p.parts.length cpp):=by
    by_cases h:s.x.length=1
    ·obtain⟨gx,ox,Atp,ctp,Anp,cnp,App,cpp,e1,e2,e3⟩:=h2.spot 0 (by omega);rw[yrZ,ypZ]at e3;exact⟨gx,ox,_,Atp,ctp,Anp,cnp,App,cpp,fun _=>⟨rfl,yfZ _,e1,e2,e3⟩⟩
    ·exact⟨0,0,.mk 0 0 0 [] [] [] [],none,0,none,0,none,0,fun h'=>absurd h' h⟩
   obtain⟨gt,ot,t,Atn,ctn,Atm,ctm,Att,ctt,htf⟩:∃gx ox t Atn ctn Atm ctm Att ctt,∀h:s.t.length=1,s.t[0]'(by omega)=t/\t∈s.t/\At=some ⟨gx,ox,none⟩/\IsTy W (.agg #[.int .i64 t.kind,.string ⟨t.name.toArray⟩,.slice Atn t.names.length ctn,.slice Atm t.embeds.length ctm,.slice Att t.parts.length ctt]) t/\∀X,Below W.heap.size W X->Cells5 X gx ox t.kind t.name (.slice Atn t.names.length ctn) (.slice Atm t.embeds.length ctm) (.slice Att t.parts.length ctt):=by
    by_cases h:s.t.length=1
    ·obtain⟨gx,ox,Atp,ctp,Anp,cnp,App,cpp,e1,e2,e3⟩:=h1.spot 0 (by omega);rw[yrZ,ypZ]at e3;exact⟨gx,ox,_,Atp,ctp,Anp,cnp,App,cpp,fun _=>⟨rfl,yfZ _,e1,e2,e3⟩⟩
    ·exact⟨0,0,.mk 0 [] [] [] [],none,0,none,0,none,0,fun h'=>absurd h' h⟩
   obtain⟨kd,hkd⟩:=zE (s.kind);obtain⟨tl,htl⟩:=zE (s.t.length);obtain⟨xl,hxl⟩:=zE (s.x.length);obtain⟨bl,hbl⟩:=zE (s.body.length);obtain⟨el,hel⟩:=zE (s.els.length);obtain⟨xi,hxi⟩:∃q:Int,((xl:Nat):Int)=q:=⟨_,rfl⟩;obtain⟨ti,hti⟩:∃q:Int,((tl:Nat):Int)=q:=⟨_,rfl⟩;obtain⟨bi,hbi⟩:∃q:Int,((bl:Nat):Int)=q:=⟨_,rfl⟩;obtain⟨ei,hei⟩:∃q:Int,((el:Nat):Int)=q:=⟨_,rfl⟩;obtain⟨sm,hsmv⟩:=zE (NM.small s.name);obtain⟨ne,hne⟩:=zE (((⟨s.name.toArray⟩:ByteArray) != ⟨#[]⟩));obtain⟨nb,hnb⟩:=zE ((kd==1||kd==2));have H1:ne=!s.name.isEmpty:=by
    rw[<-hne]
    cases s.name with
    | nil=>rfl
    | cons a b=>show(!((a::b).toArray==#[]))=true;simp
   have Hi:=zh (show ∀z:Bool,(true&&((z||(xi != 1))==false))=true->Ax=some ⟨gx,ox,none⟩/\(0:Int)<xi/\∀X,Below W.heap.size W X->CellsEx X gx ox (.int .i64 p.pos) (.int .i64 p.kind) (.int .i64 p.n) (.string ⟨p.s.toArray⟩) (.slice Atp p.t.length ctp) (.slice Anp p.names.length cnp) (.slice App p.parts.length cpp)from fun z hz=>by
    have h:s.x.length=1:=(by simp at hz;omega);exact⟨(hxf h).2.2.1,by omega,(hxf h).2.2.2.2⟩)
   have Hu:=zh (show ∀z:Bool,(true&&((z||(xi != 1))==false))=true->∀X,LW W X->Calls Tryz.prog 33 #[.agg #[.int .i64 p.pos,.int .i64 p.kind,.int .i64 p.n,.string ⟨p.s.toArray⟩,.slice Atp p.t.length ctp,.slice Anp p.names.length cnp,.slice App p.parts.length cpp],.int .i64 64] X fun e w2=>e=.returned (.bool rx)/\Below X.heap.size X w2 from fun z hz X hX=>by
    have h:s.x.length=1:=(by simp at hz;omega);obtain⟨q1,q2,q3,q4,q5⟩:=hxf h;have hq:=Sx.sizeX_mem q2;rw[hrx h,q1];exact(zjzZ _ p (ybZ _) 64 _ X X (ybZ _) hX.self (IsEx.below hX.b _ _ q4) (by omega)).mono fun e w2 h=>⟨h.1,h.2.b⟩)
   have Hs:=zh (show ∀z u:Bool,(((z&&((ti==1)==true))&&u))=true->At=some ⟨gt,ot,none⟩/\(0:Int)<ti/\∀X,Below W.heap.size W X->Cells5 X gt ot t.kind t.name (.slice Atn t.names.length ctn) (.slice Atm t.embeds.length ctm) (.slice Att t.parts.length ctt)from fun z u hz=>by
    have h:s.t.length=1:=(by simp at hz;omega);exact⟨(htf h).2.2.1,by omega,(htf h).2.2.2.2⟩)
   have Hy:=zh (show ∀z u:Bool,(((z&&((ti==1)==true))&&u))=true->∀X,LW W X->Calls Tryz.prog 27 #[.agg #[.int .i64 t.kind,.string ⟨t.name.toArray⟩,.slice Atn t.names.length ctn,.slice Atm t.embeds.length ctm,.slice Att t.parts.length ctt],.int .i64 64] X fun e w2=>e=.returned (.bool rt)/\Below X.heap.size X w2 from fun z u hz X hX=>by
    have h:s.t.length=1:=(by simp at hz;omega);obtain⟨q1,q2,q3,q4,q5⟩:=htf h;have hq:=Sx.size_mem q2;rw[hrt h,q1];exact(zibZ 64 (ybZ _) t _ X X hX.self (IsTy.below hX.b _ _ q4) (by omega)).mono fun e w2 h=>⟨h.1,h.2.b⟩)
   have Hx:=zh (fun X (hX:LW W X)=>(zgtZ hX.self s.name (by omega)).mono fun e w2 h=>(show e=.returned (.bool sm)/\Below X.heap.size X w2 from⟨by rw[h.1,hsmv],h.2.b⟩));have H6:=zh (fun(d':Nat) (hd':d=d'+1) X (hX:LW W X)=>(Hd.1 d' _ X X (by have:=H7.o.2;omega) hX.self (h3.below hX.b) (by omega)).mono fun e w2 h=>(show e=.returned (.bool (Sx.rightSs NM d' s.body))/\Below X.heap.size X w2 from⟨h.1,h.2.b⟩));have H4:=zh (fun(d':Nat) (hd':d=d'+1) X (hX:LW W X)=>(Hd.2 d' _ X X (by have:=H7.o.2;omega) hX.self (h4.below hX.b) (by omega)).mono fun e w2 h=>(show e=.returned (.bool (Sx.rightSs NM d' s.els))/\Below X.heap.size X w2 from⟨h.1,h.2.b⟩));obtain⟨b5,hb5⟩:=zE ((((((e==0)||(decide (kd<1)))||(decide (7<kd)))||(xi != 1))||(!rx)));obtain⟨b8,hb8⟩:=zE (((((nb != ne)||(nb&&(!sm)))||(decide (1<ti)))||((ti==1)&&((kd != 1)||(!rt)))));have Jb:=zh (show b5=true->Sx.rightS NM d s=false from fun hh=>by
    cases d with
    | zero=>cases s;rfl
    | succ d=>
     have Hh:(e==0)=false:=(by rw[yaZ];have:=H7.o.1;omega);rw[Sx.rightS_ref,refS5 Hh hrx (by rw[hxl,hxi]),hkd,hb5,hh];rfl)
   have Ja:=zh (show b8=true->Sx.rightS NM d s=false from fun hh=>by
    cases d with
    | zero=>cases s;rfl
    | succ d=>
     rw[Sx.rightS_ref,refS8 (nb:=nb) (by first | exact hnb.symm | (rw[hkd];exact hnb.symm)) H1 hsmv.symm hrt (by rw[htl,hti]),hkd,hb8,hh];simp)
   have Hl:=zh (show b5=false->b8=false->∀d',d=d'+1->Sx.rightS NM d s=(((decide (s.kind=4\/s.kind=5)||s.body.isEmpty)&&(decide (s.kind=4)||s.els.isEmpty))&&(Sx.rightSs NM d' s.body&&Sx.rightSs NM d' s.els))from fun q5 q8 d' hd'=>by
    have Hh:(e==0)=false:=(by rw[yaZ];have:=H7.o.1;omega);rw[hd',Sx.rightS_ref,refS5 Hh hrx (by rw[hxl,hxi]),refS8 (nb:=nb) (by first | exact hnb.symm | (rw[hkd];exact hnb.symm)) H1 hsmv.symm hrt (by rw[htl,hti]),hkd,hb5,hb8,q5,q8];simp)
   have HD:=zh (show b5=false->∃d',d=d'+1 from fun q5=>by
    cases d with
    | zero=>rw[<-H7.o.1]at hb5;rw[<-hb5]at q5;simp at q5
    | succ d'=>exact⟨d',rfl⟩)
   have H9:=zh (show((s.body.length:Nat):Int)=bi/\((s.els.length:Nat):Int)=ei from⟨by rw[hbl,hbi],by rw[hel,hei]⟩);have J2:=zh hkd;have Hw:=zh H1;have J4:=zh hb5;have J9:=zh hb8;have J7:=zh hnb;rw[hkd,htl,hxl,hbl,hel]at hc5;rw[hbl]at H6;rw[hel]at H4;have xl0:(xl:Int)<=1000000:=(by omega);have tl0:(tl:Int)<=1000000:=(by omega);have bl0:(bl:Int)<=1000000:=(by omega);have el0:(el:Int)<=1000000:=(by omega);obtain⟨K,hK⟩:=zE (wr.heap.size);obtain⟨w2,hw2⟩:=zE (wr.alloc (.cells #[.int .i64 s.pos,.int .i64 kd,.string ⟨s.name.toArray⟩,.slice At tl ct,.slice Ax xl cx,.slice Ab bl cb,.slice Ae el ce] 69));have hS2:(fun X=>LW W X/\X.heap[K]? =some (.cells #[.int .i64 s.pos,.int .i64 kd,.string ⟨s.name.toArray⟩,.slice At tl ct,.slice Ax xl cx,.slice Ab bl cb,.slice Ae el ce] 69 (0,0))) w2:=⟨by rw[<-hw2];exact HB.o.alloc _,by rw[<-hw2,<-hK];exact ydZ wr _⟩;have H2:=zh hS2;have Hr:=zh hw2;have H8:=zh (show ∀X X',(fun X=>LW W X/\X.heap[K]? =some (.cells #[.int .i64 s.pos,.int .i64 kd,.string ⟨s.name.toArray⟩,.slice At tl ct,.slice Ax xl cx,.slice Ab bl cb,.slice Ae el ce] 69 (0,0))) X->Below X.heap.size X X'->(fun X=>LW W X/\X.heap[K]? =some (.cells #[.int .i64 s.pos,.int .i64 kd,.string ⟨s.name.toArray⟩,.slice At tl ct,.slice Ax xl cx,.slice Ab bl cb,.slice Ae el ce] 69 (0,0))) X' from fun X X2 h hb=>⟨h.1.go hb,(hb.block _ (zaZ h.2)).trans h.2⟩);obtain⟨hg,x0,x1,x2,x3,x4,x5,x6⟩:=hc5 wr HB.o.b;clear hty hc5 Hj H3 hse J0 Hf Hd J8 Hg Hv Hz h1 h2 h3 h4 hrx hrt hxf htf hkd htl hxl hbl hel hsmv H1 hne hb5 hb8 hnb hw2 hS2;go_upto_region 5 with fail
   rw[Hr.o];clear Hr hg x0 x1 x2 x3 x4 x5 x6;have hS0:=H2.o;obtain⟨Fs,hFs⟩:∃F:List (Value->World->Value->Nat->Prop),(let b2:Bool:=(e==0);let p0:Bool:=(true&&(b2==false));let b7:Bool:=(b2||(decide (kd<1)));let p1:Bool:=(true&&(b7==false));let b12:Bool:=(b7||(decide (7<kd)));let p2:Bool:=(true&&(b12==false));let b18:Bool:=(b12||(xi != 1));let p3:Bool:=(true&&(b18==false));[IsF (.int .i64 e),IsF (.bool (e==0)),IsF (.bool (e==0)),IsF (gv p0 (.pointer (some ⟨K,1,none⟩))),IsF (gv p0 (.int .i64 kd)),IsF (gv p0 (.bool (decide (kd<1)))),IsF (.bool (b2||(decide (kd<1)))),IsF (.bool (b2||(decide (kd<1)))),IsF (gv p1 (.pointer (some ⟨K,1,none⟩))),IsF (gv p1 (.int .i64 kd)),IsF (gv p1 (.bool (decide (7<kd)))),IsF (.bool (b7||(decide (7<kd)))),IsF (.bool (b7||(decide (7<kd)))),IsF (gv p2 (.pointer (some ⟨K,4,none⟩))),IsF (gv p2 (.slice Ax xl cx)),IsF (gv p2 (.int .i64 xi)),IsF (gv p2 (.bool (xi != 1))),IsF (.bool (b12||(xi != 1))),IsF (.bool (b12||(xi != 1))),IsF (gv p3 (.pointer (some ⟨K,4,none⟩))),IsF (gv p3 (.slice Ax xl cx)),IsF (gv p3 (.pointer (some ⟨gx,ox,none⟩))),IsF (gv p3 (.agg #[.int .i64 p.pos,.int .i64 p.kind,.int .i64 p.n,.string ⟨p.s.toArray⟩,.slice Atp p.t.length ctp,.slice Anp p.names.length cnp,.slice App p.parts.length cpp])),IsF (gv p3 (.bool rx)),IsF (gv p3 (.bool (!rx))),IsF (.bool (b18||(!rx)))])=F:=⟨_,rfl⟩;obtain⟨F0,F1,F2,F3,F4,F5,F6,F7,F8,F9,F10,F11,F12,F13,F14,F15,F16,F17,F18,F19,F20,F21,F22,F23,F24,F25,-⟩:=zcgZ hFs;have H0:AllStay StM Fs:=(by rw[<-hFs];repeat first | exact .nil | refine .cons IsF.stays ?_);clear hFs;have HB:=Bx.mk (P:= Tryz.prog) (I:=StI (fun X=>LW W X/\X.heap[K]? =some (.cells #[.int .i64 s.pos,.int .i64 kd,.string ⟨s.name.toArray⟩,.slice At tl ct,.slice Ax xl cx,.slice Ab bl cb,.slice Ae el ce] 69 (0,0)))) flS ldA fun _ w _=>(fun w h=>h.2) w;refine zwZ [] (StI (fun X=>LW W X/\X.heap[K]? =some (.cells #[.int .i64 s.pos,.int .i64 kd,.string ⟨s.name.toArray⟩,.slice At tl ct,.slice Ax xl cx,.slice Ab bl cb,.slice Ae el ce] 69 (0,0)))) StM Fs undef (by kernel_rfl) (by kernel_rfl) (by kernel_rfl) (by kernel_rfl) (by kernel_rfl) H0 (n:=26) (by kernel_rfl) (hS0) ?_ ?_
   ·repeat' first | refine OpsOk.cons ?_ ?_ | fail
    ·exact .m F0 (.n 1)
    ·exact .v1 F1 (.f 18 F0)
    ·exact .m F2 (.f 19 F1)
    ·exact .gfl HB (g0 F2) F3 (.n 6)
    ·exact .gld HB (g0 F2) F4 (.g 21 F3)
    ·exact .gv1 (g0 F2) F5 (.g 22 F4)
    ·exact .pO F6 (.f 20 F2) (.g 23 F5)
    ·exact .m F7 (.f 24 F6)
    ·exact .gfl HB (g0 F7) F8 (.n 6)
    ·exact .gld HB (g0 F7) F9 (.g 26 F8)
    ·exact .gv1 (g0 F7) F10 (.g 27 F9)
    ·exact .pO F11 (.f 25 F7) (.g 28 F10)
    ·exact .m F12 (.f 29 F11)
    ·exact .gfl HB (g0 F12) F13 (.n 6)
    ·exact .gld HB (g0 F12) F14 (.g 31 F13)
    ·exact .gv1 (g0 F12) F15 (.g 32 F14)
    ·exact .gv1 (g0 F12) F16 (.g 33 F15)
    ·exact .pO F17 (.f 30 F12) (.g 34 F16)
    ·exact .m F18 (.f 35 F17)
    ·exact .gfl HB (g0 F18) F19 (.n 6)
    ·exact .gld HB (g0 F18) F20 (.g 37 F19)
    ·refine OpOk.gval rfl rfl (by kernel_rfl) (by kernel_rfl) (g0 F18) F21 StM.rf fun hp ρ w r ka E hI K hK=>?_;have e38:=(E.e 38 20 (by kernel_rfl) F20).trans (zbaZ hp);have c:=E.c;obtain⟨rfl,h1,hcx⟩:=Hi.o _ hp;go_simp;exact hK
    ·refine OpOk.gval rfl rfl (by kernel_rfl) (by kernel_rfl) (g0 F18) F22 StM.rf fun hp ρ w r ka E hI K hK=>?_;have e39:=(E.e 39 21 (by kernel_rfl) F21).trans (zbaZ hp);obtain⟨h0,h1,hcx⟩:=Hi.o _ hp;obtain⟨hg,c0,c1,c2,c3,c4,c5,c6⟩:=hcx w hI.1.b;go_simp;exact hK
    ·exact OpOk.gcall (args:=#[.agg #[.int .i64 p.pos,.int .i64 p.kind,.int .i64 p.n,.string ⟨p.s.toArray⟩,.slice Atp p.t.length ctp,.slice Anp p.names.length cnp,.slice App p.parts.length cpp],.int .i64 64]) rfl (by kernel_rfl) (by kernel_rfl) (g0 F18) F23 H8.o rfl Tryz.func33 (by kernel_rfl) rfl (fun hp ρ w r ka E=>by simp only[yIZ,yPZ,yRZ,(show ρ (.tmp 40)=.agg #[.int .i64 p.pos,.int .i64 p.kind,.int .i64 p.n,.string ⟨p.s.toArray⟩,.slice Atp p.t.length ctp,.slice Anp p.names.length cnp,.slice App p.parts.length cpp]from(E.e 40 22 (by kernel_rfl) F22).trans (zbaZ hp)),E.c]) fun hp w hS=>Hu.o _ hp w hS.1
    ·exact .gv1 (g0 F18) F24 (.g 41 F23)
    ·exact .pO F25 (.f 36 F18) (.g 42 F24)
    ·exact .nil
   ·intro uq wq rq hI hF;have hSz:=hI;have f25:uq 25=.bool (((((e==0)||(decide (kd<1)))||(decide (7<kd)))||(xi != 1))||(!rx)):=zbqZ F25 (hF 25 (by decide));simp only[yyZ,fillAct,Act.put,yoZ,yzZ,yAZ,f25];clear hI hF F0 F1 F2 F3 F4 F5 F6 F7 F8 F9 F10 F11 F12 F13 F14 F15 F16 F17 F18 F19 F20 F21 F22 F23 F24 F25 H0 f25;rw[J4.o];have HS:=zh hSz;clear hSz
    cases b5 with
    | true=>have HF:=zh (Jb.o rfl);go_wp2_with fail;go_ret;exact⟨by rw[Ha.o HF.o];rfl,HS.o.1⟩
    | false=>
     obtain⟨d',hd'⟩:=HD.o rfl;have Hc:=zh (H6.o d' hd');have He:=zh (H4.o d' hd');have Hb:=zh (fun q8=>Hl.o rfl q8 d' hd');have Hm:e-1=((d':Nat):Int):=(by have:=H7.o.1;omega);rw[<-Hm]at Hc He;obtain⟨rb,hrb⟩:=zE (Sx.rightSs NM d' s.body);obtain⟨re,hre⟩:=zE (Sx.rightSs NM d' s.els);rw[hrb]at Hc Hb;rw[hre]at He Hb;clear hrb hre Hm hd' Hl H6 H4 HD;go_upto_region 7 with fail;have hS0:=HS.o;obtain⟨Fs,hFs⟩:∃F:List (Value->World->Value->Nat->Prop),(let b3:Bool:=(kd==1);let p0:Bool:=(true&&(b3==false));[IsF (.pointer (some ⟨K,1,none⟩)),IsF (.int .i64 kd),IsF (.bool (kd==1)),IsF (.bool (kd==1)),IsF (gv p0 (.pointer (some ⟨K,1,none⟩))),IsF (gv p0 (.int .i64 kd)),IsF (gv p0 (.bool (kd==2))),IsF (.bool (b3||(kd==2))),IsF (.bool (b3||(kd==2)))])=F:=⟨_,rfl⟩;obtain⟨F0,F1,F2,F3,F4,F5,F6,F7,F8,-⟩:=zcgZ hFs;have H0:AllStay StM Fs:=(by rw[<-hFs];repeat first | exact .nil | refine .cons IsF.stays ?_);clear hFs;have HB:=Bx.mk (P:= Tryz.prog) (I:=StI (fun X=>LW W X/\X.heap[K]? =some (.cells #[.int .i64 s.pos,.int .i64 kd,.string ⟨s.name.toArray⟩,.slice At tl ct,.slice Ax xl cx,.slice Ab bl cb,.slice Ae el ce] 69 (0,0)))) flS ldA fun _ w _=>(fun w h=>h.2) w;refine zwZ [] (StI (fun X=>LW W X/\X.heap[K]? =some (.cells #[.int .i64 s.pos,.int .i64 kd,.string ⟨s.name.toArray⟩,.slice At tl ct,.slice Ax xl cx,.slice Ab bl cb,.slice Ae el ce] 69 (0,0)))) StM Fs undef (by kernel_rfl) (by kernel_rfl) (by kernel_rfl) (by kernel_rfl) (by kernel_rfl) H0 (n:=9) (by kernel_rfl) (hS0) ?_ ?_
     ·repeat' first | refine OpsOk.cons ?_ ?_ | fail
      ·exact .fl HB F0 (.n 6)
      ·exact .ld HB F1 (.f 44 F0)
      ·exact .v1 F2 (.f 45 F1)
      ·exact .m F3 (.f 46 F2)
      ·exact .gfl HB (g0 F3) F4 (.n 6)
      ·exact .gld HB (g0 F3) F5 (.g 48 F4)
      ·exact .gv1 (g0 F3) F6 (.g 49 F5)
      ·exact .pO F7 (.f 47 F3) (.g 50 F6)
      ·exact .s F8 (.f 51 F7)
      ·exact .nil
     ·intro uq wq rq hI hF;have hSz:=hI;have f8:uq 8=.bool ((kd==1)||(kd==2)):=zbqZ F8 (hF 8 (by decide));simp only[yyZ,fillAct,Act.put,yoZ,yzZ,yAZ,f8];clear hI hF F0 F1 F2 F3 F4 F5 F6 F7 F8 H0 f8;rw[J7.o];have Ho:=zh hSz;clear hSz HS;go_upto_region 8 with fail
      have hS0:=Ho.o;obtain⟨Fs,hFs⟩:∃F:List (Value->World->Value->Nat->Prop),(let b5:Bool:=(nb != ne);let p0:Bool:=(true&&(b5==false));let b7:Bool:=nb;let p1:Bool:=(p0&&(b7==true));let b14:Bool:=(b5||(nb&&(!sm)));let p2:Bool:=(true&&(b14==false));let b20:Bool:=(b14||(decide (1<ti)));let p3:Bool:=(true&&(b20==false));let b25:Bool:=(ti==1);let p4:Bool:=(p3&&(b25==true));let b29:Bool:=(kd != 1);let p5:Bool:=(p4&&(b29==false));[IsF (.bool nb),IsF (.pointer (some ⟨K,2,none⟩)),IsF (.string ⟨s.name.toArray⟩),IsF (.bool ne),IsF (.bool (nb != ne)),IsF (.bool (nb != ne)),IsF (gv p0 (.bool nb)),IsF (gv p0 (.bool nb)),IsF (gv p1 (.pointer (some ⟨K,2,none⟩))),IsF (gv p1 (.string ⟨s.name.toArray⟩)),IsF (gv p1 (.bool sm)),IsF (gv p1 (.bool (!sm))),IsF (gv p0 (.bool (nb&&(!sm)))),IsF (.bool (b5||(nb&&(!sm)))),IsF (.bool (b5||(nb&&(!sm)))),IsF (gv p2 (.pointer (some ⟨K,3,none⟩))),IsF (gv p2 (.slice At tl ct)),IsF (gv p2 (.int .i64 ti)),IsF (gv p2 (.bool (decide (1<ti)))),IsF (.bool (b14||(decide (1<ti)))),IsF (.bool (b14||(decide (1<ti)))),IsF (gv p3 (.pointer (some ⟨K,3,none⟩))),IsF (gv p3 (.slice At tl ct)),IsF (gv p3 (.int .i64 ti)),IsF (gv p3 (.bool (ti==1))),IsF (gv p3 (.bool (ti==1))),IsF (gv p4 (.pointer (some ⟨K,1,none⟩))),IsF (gv p4 (.int .i64 kd)),IsF (gv p4 (.bool (kd != 1))),IsF (gv p4 (.bool (kd != 1))),IsF (gv p5 (.pointer (some ⟨K,3,none⟩))),IsF (gv p5 (.slice At tl ct)),IsF (gv p5 (.pointer (some ⟨gt,ot,none⟩))),IsF (gv p5 (.agg #[.int .i64 t.kind,.string ⟨t.name.toArray⟩,.slice Atn t.names.length ctn,.slice Atm t.embeds.length ctm,.slice Att t.parts.length ctt])),IsF (gv p5 (.bool rt)),IsF (gv p5 (.bool (!rt))),IsF (gv p4 (.bool (b29||(!rt)))),IsF (gv p3 (.bool (b25&&(b29||(!rt))))),IsF (.bool (b20||(b25&&(b29||(!rt)))))])=F:=⟨_,rfl⟩;obtain⟨F0,F1,F2,F3,F4,F5,F6,F7,F8,F9,F10,F11,F12,F13,F14,F15,F16,F17,F18,F19,F20,F21,F22,F23,F24,F25,F26,F27,F28,F29,F30,F31,F32,F33,F34,F35,F36,F37,F38,-⟩:=zcgZ hFs;have H0:AllStay StM Fs:=(by rw[<-hFs];repeat first | exact .nil | refine .cons IsF.stays ?_);clear hFs;have HB:=Bx.mk (P:= Tryz.prog) (I:=StI (fun X=>LW W X/\X.heap[K]? =some (.cells #[.int .i64 s.pos,.int .i64 kd,.string ⟨s.name.toArray⟩,.slice At tl ct,.slice Ax xl cx,.slice Ab bl cb,.slice Ae el ce] 69 (0,0)))) flS ldA fun _ w _=>(fun w h=>h.2) w;refine zwZ [] (StI (fun X=>LW W X/\X.heap[K]? =some (.cells #[.int .i64 s.pos,.int .i64 kd,.string ⟨s.name.toArray⟩,.slice At tl ct,.slice Ax xl cx,.slice Ab bl cb,.slice Ae el ce] 69 (0,0)))) StM Fs undef (by kernel_rfl) (by kernel_rfl) (by kernel_rfl) (by kernel_rfl) (by kernel_rfl) H0 (n:=39) (by kernel_rfl) (hS0) ?_ ?_
      ·repeat' first | refine OpsOk.cons ?_ ?_ | fail
       ·exact .m F0 (.n 7)
       ·exact .fl HB F1 (.n 6)
       ·exact .ld HB F2 (.f 53 F1)
       ·refine OpOk.val rfl rfl F3 StM.rf fun ρ w r ka E hI K hK=>?_;have e54:=E.e 54 2 (by kernel_rfl) F2;have c:=E.c;go_simp;rw[<-Hw.o];exact hK
       ·exact .v2 F4 (.f 52 F0) (.f 55 F3)
       ·exact .m F5 (.f 56 F4)
       ·exact .gm (g0 F5) F6 (.n 7)
       ·exact .gm (g0 F5) F7 (.g 58 F6)
       ·exact .gfl HB F7 F8 (.n 6)
       ·exact .gld HB F7 F9 (.g 60 F8)
       ·exact OpOk.gcall (args:=#[.string ⟨s.name.toArray⟩]) rfl (by kernel_rfl) (by kernel_rfl) F7 F10 H8.o rfl Tryz.func83 (by kernel_rfl) rfl (fun hp ρ w r ka E=>by simp only[yIZ,yPZ,yRZ,(show ρ (.tmp 61)=.string ⟨s.name.toArray⟩from(E.e 61 9 (by kernel_rfl) F9).trans (zbaZ hp))]) fun hp w hS=>Hx.o w hS.1
       ·exact .gv1 F7 F11 (.g 62 F10)
       ·exact .gpA (g0 F5) F12 (.g 59 F7) (.g 63 F11)
       ·exact .pO F13 (.f 57 F5) (.g 64 F12)
       ·exact .m F14 (.f 65 F13)
       ·exact .gfl HB (g0 F14) F15 (.n 6)
       ·exact .gld HB (g0 F14) F16 (.g 67 F15)
       ·exact .gv1 (g0 F14) F17 (.g 68 F16)
       ·exact .gv1 (g0 F14) F18 (.g 69 F17)
       ·exact .pO F19 (.f 66 F14) (.g 70 F18)
       ·exact .m F20 (.f 71 F19)
       ·exact .gfl HB (g0 F20) F21 (.n 6)
       ·exact .gld HB (g0 F20) F22 (.g 73 F21)
       ·exact .gv1 (g0 F20) F23 (.g 74 F22)
       ·exact .gv1 (g0 F20) F24 (.g 75 F23)
       ·exact .gm (g0 F20) F25 (.g 76 F24)
       ·exact .gfl HB F25 F26 (.n 6)
       ·exact .gld HB F25 F27 (.g 78 F26)
       ·exact .gv1 F25 F28 (.g 79 F27)
       ·exact .gm F25 F29 (.g 80 F28)
       ·exact .gfl HB F29 F30 (.n 6)
       ·exact .gld HB F29 F31 (.g 82 F30)
       ·refine OpOk.gval rfl rfl (by kernel_rfl) (by kernel_rfl) F29 F32 StM.rf fun hp ρ w r ka E hI K hK=>?_;have e83:=(E.e 83 31 (by kernel_rfl) F31).trans (zbaZ hp);have c:=E.c;obtain⟨rfl,h1,hct⟩:=Hs.o _ _ hp;go_simp;exact hK
       ·refine OpOk.gval rfl rfl (by kernel_rfl) (by kernel_rfl) F29 F33 StM.rf fun hp ρ w r ka E hI K hK=>?_;have e84:=(E.e 84 32 (by kernel_rfl) F32).trans (zbaZ hp);obtain⟨h0,h1,hct⟩:=Hs.o _ _ hp;obtain⟨hg,c0,c1,c2,c3,c4⟩:=hct w hI.1.b;go_simp;exact hK
       ·exact OpOk.gcall (args:=#[.agg #[.int .i64 t.kind,.string ⟨t.name.toArray⟩,.slice Atn t.names.length ctn,.slice Atm t.embeds.length ctm,.slice Att t.parts.length ctt],.int .i64 64]) rfl (by kernel_rfl) (by kernel_rfl) F29 F34 H8.o rfl Tryz.func27 (by kernel_rfl) rfl (fun hp ρ w r ka E=>by simp only[yIZ,yPZ,yRZ,(show ρ (.tmp 85)=.agg #[.int .i64 t.kind,.string ⟨t.name.toArray⟩,.slice Atn t.names.length ctn,.slice Atm t.embeds.length ctm,.slice Att t.parts.length ctt]from(E.e 85 33 (by kernel_rfl) F33).trans (zbaZ hp)),E.c]) fun hp w hS=>Hy.o _ _ hp w hS.1
       ·exact .gv1 F29 F35 (.g 86 F34)
       ·exact .gpO F25 F36 (.g 81 F29) (.g 87 F35)
       ·exact .gpA (g0 F20) F37 (.g 77 F25) (.g 88 F36)
       ·exact .pO F38 (.f 72 F20) (.g 89 F37)
       ·exact .nil
      ·intro uq wq rq hI hF;have hSz:=hI;have f38:uq 38=.bool ((((nb != ne)||(nb&&(!sm)))||(decide (1<ti)))||((ti==1)&&((kd != 1)||(!rt)))):=zbqZ F38 (hF 38 (by decide));simp only[yyZ,fillAct,Act.put,yoZ,yzZ,yAZ,f38];clear hI hF F0 F1 F2 F3 F4 F5 F6 F7 F8 F9 F10 F11 F12 F13 F14 F15 F16 F17 F18 F19 F20 F21 F22 F23 F24 F25 F26 F27 F28 F29 F30 F31 F32 F33 F34 F35 F36 F37 F38 H0 f38;rw[J9.o];have HS:=zh hSz;clear hSz Ho
       cases b8 with
       | true=>have HF:=zh (Ja.o rfl);go_wp2_with fail;go_ret;exact⟨by rw[Ha.o HF.o];rfl,HS.o.1⟩
       | false=>
        have Ht:=zh (Hb.o rfl);clear Hb;go_upto_region 10 with fail
        have hS0:=HS.o;obtain⟨Fs,hFs⟩:∃F:List (Value->World->Value->Nat->Prop),(let b4:Bool:=(decide (0<bi));let p0:Bool:=(true&&(b4==true));let b9:Bool:=(b4&&(kd != 4));let p1:Bool:=(true&&(b9==true));let b14:Bool:=(b9&&(kd != 5));let p2:Bool:=(true&&(b14==false));let b19:Bool:=(decide (0<ei));let p3:Bool:=(p2&&(b19==true));let b25:Bool:=(b14||(b19&&(kd != 4)));let p4:Bool:=(true&&(b25==false));let b33:Bool:=(b25||(!rb));let p5:Bool:=(true&&(b33==false));[IsF (.pointer (some ⟨K,5,none⟩)),IsF (.slice Ab bl cb),IsF (.int .i64 bi),IsF (.bool (decide (0<bi))),IsF (.bool (decide (0<bi))),IsF (gv p0 (.pointer (some ⟨K,1,none⟩))),IsF (gv p0 (.int .i64 kd)),IsF (gv p0 (.bool (kd != 4))),IsF (.bool (b4&&(kd != 4))),IsF (.bool (b4&&(kd != 4))),IsF (gv p1 (.pointer (some ⟨K,1,none⟩))),IsF (gv p1 (.int .i64 kd)),IsF (gv p1 (.bool (kd != 5))),IsF (.bool (b9&&(kd != 5))),IsF (.bool (b9&&(kd != 5))),IsF (gv p2 (.pointer (some ⟨K,6,none⟩))),IsF (gv p2 (.slice Ae el ce)),IsF (gv p2 (.int .i64 ei)),IsF (gv p2 (.bool (decide (0<ei)))),IsF (gv p2 (.bool (decide (0<ei)))),IsF (gv p3 (.pointer (some ⟨K,1,none⟩))),IsF (gv p3 (.int .i64 kd)),IsF (gv p3 (.bool (kd != 4))),IsF (gv p2 (.bool (b19&&(kd != 4)))),IsF (.bool (b14||(b19&&(kd != 4)))),IsF (.bool (b14||(b19&&(kd != 4)))),IsF (gv p4 (.pointer (some ⟨K,5,none⟩))),IsF (gv p4 (.slice Ab bl cb)),IsF (gv p4 (.int .i64 e)),IsF (gv p4 (.int .i64 (e-1))),IsF (gv p4 (.bool rb)),IsF (gv p4 (.bool (!rb))),IsF (.bool (b25||(!rb))),IsF (.bool (b25||(!rb))),IsF (gv p5 (.pointer (some ⟨K,6,none⟩))),IsF (gv p5 (.slice Ae el ce)),IsF (gv p5 (.int .i64 e)),IsF (gv p5 (.int .i64 (e-1))),IsF (gv p5 (.bool re)),IsF (gv p5 (.bool (!re))),IsF (.bool (b33||(!re)))])=F:=⟨_,rfl⟩;obtain⟨F0,F1,F2,F3,F4,F5,F6,F7,F8,F9,F10,F11,F12,F13,F14,F15,F16,F17,F18,F19,F20,F21,F22,F23,F24,F25,F26,F27,F28,F29,F30,F31,F32,F33,F34,F35,F36,F37,F38,F39,F40,-⟩:=zcgZ hFs;have H0:AllStay StM Fs:=(by rw[<-hFs];repeat first | exact .nil | refine .cons IsF.stays ?_);clear hFs;have HB:=Bx.mk (P:= Tryz.prog) (I:=StI (fun X=>LW W X/\X.heap[K]? =some (.cells #[.int .i64 s.pos,.int .i64 kd,.string ⟨s.name.toArray⟩,.slice At tl ct,.slice Ax xl cx,.slice Ab bl cb,.slice Ae el ce] 69 (0,0)))) flS ldA fun _ w _=>(fun w h=>h.2) w;refine zwZ [] (StI (fun X=>LW W X/\X.heap[K]? =some (.cells #[.int .i64 s.pos,.int .i64 kd,.string ⟨s.name.toArray⟩,.slice At tl ct,.slice Ax xl cx,.slice Ab bl cb,.slice Ae el ce] 69 (0,0)))) StM Fs undef (by kernel_rfl) (by kernel_rfl) (by kernel_rfl) (by kernel_rfl) (by kernel_rfl) H0 (n:=41) (by kernel_rfl) (hS0) ?_ ?_
        ·repeat' first | refine OpsOk.cons ?_ ?_ | fail
         ·exact .fl HB F0 (.n 6)
         ·exact .ld HB F1 (.f 91 F0)
         ·exact .v1 F2 (.f 92 F1)
         ·exact .v1 F3 (.f 93 F2)
         ·exact .m F4 (.f 94 F3)
         ·exact .gfl HB (g0 F4) F5 (.n 6)
         ·exact .gld HB (g0 F4) F6 (.g 96 F5)
         ·exact .gv1 (g0 F4) F7 (.g 97 F6)
         ·exact .pA F8 (.f 95 F4) (.g 98 F7)
         ·exact .m F9 (.f 99 F8)
         ·exact .gfl HB (g0 F9) F10 (.n 6)
         ·exact .gld HB (g0 F9) F11 (.g 101 F10)
         ·exact .gv1 (g0 F9) F12 (.g 102 F11)
         ·exact .pA F13 (.f 100 F9) (.g 103 F12)
         ·exact .m F14 (.f 104 F13)
         ·exact .gfl HB (g0 F14) F15 (.n 6)
         ·exact .gld HB (g0 F14) F16 (.g 106 F15)
         ·exact .gv1 (g0 F14) F17 (.g 107 F16)
         ·exact .gv1 (g0 F14) F18 (.g 108 F17)
         ·exact .gm (g0 F14) F19 (.g 109 F18)
         ·exact .gfl HB F19 F20 (.n 6)
         ·exact .gld HB F19 F21 (.g 111 F20)
         ·exact .gv1 F19 F22 (.g 112 F21)
         ·exact .gpA (g0 F14) F23 (.g 110 F19) (.g 113 F22)
         ·exact .pO F24 (.f 105 F14) (.g 114 F23)
         ·exact .m F25 (.f 115 F24)
         ·exact .gfl HB (g0 F25) F26 (.n 6)
         ·exact .gld HB (g0 F25) F27 (.g 117 F26)
         ·exact .gm (g0 F25) F28 (.n 1)
         ·exact .gv1 (g0 F25) F29 (.g 119 F28)
         ·exact OpOk.gcall (args:=#[.slice Ab bl cb,.int .i64 (e-1)]) rfl (by kernel_rfl) (by kernel_rfl) (g0 F25) F30 H8.o rfl Tryz.func38 (by kernel_rfl) rfl (fun hp ρ w r ka E=>by simp only[yIZ,yPZ,yRZ,(show ρ (.tmp 118)=.slice Ab bl cb from(E.e 118 27 (by kernel_rfl) F27).trans (zbaZ hp)),(show ρ (.tmp 120)=.int .i64 (e-1)from(E.e 120 29 (by kernel_rfl) F29).trans (zbaZ hp))]) fun hp w hS=>Hc.o w hS.1
         ·exact .gv1 (g0 F25) F31 (.g 121 F30)
         ·exact .pO F32 (.f 116 F25) (.g 122 F31)
         ·exact .m F33 (.f 123 F32)
         ·exact .gfl HB (g0 F33) F34 (.n 6)
         ·exact .gld HB (g0 F33) F35 (.g 125 F34)
         ·exact .gm (g0 F33) F36 (.n 1)
         ·exact .gv1 (g0 F33) F37 (.g 127 F36)
         ·exact OpOk.gcall (args:=#[.slice Ae el ce,.int .i64 (e-1)]) rfl (by kernel_rfl) (by kernel_rfl) (g0 F33) F38 H8.o rfl Tryz.func38 (by kernel_rfl) rfl (fun hp ρ w r ka E=>by simp only[yIZ,yPZ,yRZ,(show ρ (.tmp 126)=.slice Ae el ce from(E.e 126 35 (by kernel_rfl) F35).trans (zbaZ hp)),(show ρ (.tmp 128)=.int .i64 (e-1)from(E.e 128 37 (by kernel_rfl) F37).trans (zbaZ hp))]) fun hp w hS=>He.o w hS.1
         ·exact .gv1 (g0 F33) F39 (.g 129 F38)
         ·exact .pO F40 (.f 124 F33) (.g 130 F39)
         ·exact .nil
        ·intro uq wq rq hI hF;have hSz:=hI;have f40:uq 40=.bool ((((((decide (0<bi))&&(kd != 4))&&(kd != 5))||((decide (0<ei))&&(kd != 4)))||(!rb))||(!re)):=zbqZ F40 (hF 40 (by decide));simp only[yyZ,fillAct,Act.put,yoZ,yzZ,yAZ,f40];clear hI hF F0 F1 F2 F3 F4 F5 F6 F7 F8 F9 F10 F11 F12 F13 F14 F15 F16 F17 F18 F19 F20 F21 F22 F23 F24 F25 F26 F27 F28 F29 F30 F31 F32 F33 F34 F35 F36 F37 F38 F39 F40 H0 f40;obtain⟨b10,hb10⟩:=zE (((((((decide (0<bi))&&(kd != 4))&&(kd != 5))||((decide (0<ei))&&(kd != 4)))||(!rb))||(!re)));rw[hb10];have Hq:=zh hSz;have Hp:=zh (show Sx.rightS NM d s=!b10 by rw[Ht.o,zydZ H9.o.1 H9.o.2,J2.o,hb10]);clear hSz HS hb10 Ht
         cases b10 with
         | true=>have HS:=Hq;have HF:=zh (show Sx.rightS NM d s=false from Hp.o);go_wp2_with fail;go_ret;exact⟨by rw[Ha.o HF.o];rfl,HS.o.1⟩
         | false=>
          go_wp2_with fail
          go_roundg (k-(m+1))
          case measure=>have:=HI.o;omega
          case rel=>exact⟨m+1,rfl,by simp,hlt,Hk.o Hp.o,Hq.o.1⟩
  ·have J1:¬(m:Int)<(k:Int):=(by omega);have HF:=zh (show Sx.rightSs NM d l=true from(Sx.rightSs_iff l).2 fun j h=>HR.o j h (by have:=HK.o;omega));go_wp2_with fail;go_ret;exact⟨by rw[HF.o];rfl,HB.o⟩
theorem zflZ:∀(n:Nat) (l:List Sx.St),Sx.sizeSs l<n->RefSsOk l
 | 0,l,h=>by omega
 | n+1,l,h=>znaZ l fun s hs=>by have:=Sx.sizeS_mem hs;have:=Sx.sizeS_parts s;exact⟨zflZ n s.body (by omega),zflZ n s.els (by omega)⟩
end Go.Proofs.YtdncljdfmdgdaaaGreatDoor
