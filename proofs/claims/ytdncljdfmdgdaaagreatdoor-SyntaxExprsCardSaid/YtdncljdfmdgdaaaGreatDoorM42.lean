/-
  Guarded operations over facts: what is not carried out is nothing.
-/
import Derived.Test.YtdncljdfmdgdaaaGreatDoorM1
import Derived.Test.YtdncljdfmdgdaaaGreatDoorM31
import Derived.Test.YtdncljdfmdgdaaaGreatDoorM41
import Derived.Test.YtdncljdfmdgdaaaGreatDoorM32
import Derived.Test.YtdncljdfmdgdaaaGreatDoorM40
import Derived.Test.YtdncljdfmdgdaaaGreatDoorM19
import Derived.Test.YtdncljdfmdgdaaaGreatDoorM34
import Derived.Test.YtdncljdfmdgdaaaGreatDoorM21
set_option linter.unusedSimpArgs false
set_option linter.unusedVariables false
set_option maxRecDepth 100000
set_option maxHeartbeats 16000000
namespace Go.Proofs.YtdncljdfmdgdaaaGreatDoor
open Go.RowKit Go.Shelf
def gv (p:Bool) (v:Value):Value:=if p then v else undef
theorem zgZ {p:Bool} {v:Value} (h:p=true):gv p v=v:=by unfold gv;rw[if_pos h]
theorem zmuZ {p c b:Bool} : gv p (.bool c)=.bool b↔(p&&(c==b))=true:=by
 unfold gv
 cases p with
 | false=>simp[undef]
 | true=>simp
theorem StM.rf (w:World) (r:Value) (k:Nat):StM w r k w r k:=Below.refl _ _
section
variable {P:Program} {ops:Array Oper} {Q:Exit→Act→World→Prop} {a:Act} {apps:List Nat} {I:Nat→World→Value→Prop} {M:World→Value→Nat→World→Value→Nat→Prop} {Fs:List (Value→World→Value→Nat→Prop)} {i:Nat} {o:Oper}
theorem OpOk.gany {g:Nat} {b c p:Bool} {v:Value} (hi:apps.contains i=false) (hg:o.guard=some (g,b)) (hgs:(slotAt ops.toList g).isSome=true) (he:edge ops.toList i g=true) (hFg:nth Fs g=IsF (gv p (.bool c))) (hF:nth Fs i=IsF (gv (p&&(c==b)) v)) (hM:∀w r k,M w r k w r k)
  (h:(p&&(c==b))=true→∀(ρ:Operand→Value) (u:Nat→Value) (L:Nat→Prop) (w:World) (r:Value) (k:Nat),Ev ops.toList a Fs i ρ w r k→I k w r→
   ∀K:Value→World→Prop,Hid (∀w' r',M w r k w' r' k→I k w' r'→K v w')→opWp P o ρ w K):OpOk P Q ops a apps I M (nth Fs) i o:=by
 intro ρ u L w r k h1 h2 h3 h4 h5 h6 h7 h8 h9 H1 H2 H0 K hK
 rw[zgsZ hi]at hK
 unfold guarded
 rw[hg]
 have hc:u g=gv p (.bool c):=by
  have:=h9 g (h6 g he)
  rw[hFg]at this
  exact this
 refine⟨hgs,fun e=>?_,fun e=>?_⟩
 ·rw[hc,zmuZ]at e
  refine h e ρ u L w r k (Ev.mk' h1 h2 h3 h4 h5 h6 h7 h8 h9 H1) H0 K (zh fun w' r' hm hI'=>hK.o _ _ r' hm hI' ?_)
  rw[hF]
  exact(zgZ e).symm
 ·refine hK.o _ _ r (hM w r k) H0 ?_
  rw[hF]
  unfold IsF gv
  rw[if_neg]
  intro h
  exact e (by rw[hc,zmuZ];exact h)
theorem OpOk.gval {g:Nat} {b c p:Bool} {v:Value} (hi:apps.contains i=false) (hg:o.guard=some (g,b)) (hgs:(slotAt ops.toList g).isSome=true) (he:edge ops.toList i g=true) (hFg:nth Fs g=IsF (gv p (.bool c))) (hF:nth Fs i=IsF (gv (p&&(c==b)) v)) (hM:∀w r k,M w r k w r k)
  (h:(p&&(c==b))=true→∀(ρ:Operand→Value) (w:World) (r:Value) (k:Nat),Ev ops.toList a Fs i ρ w r k→I k w r→∀K:Value→World→Prop,K v w→opWp P o ρ w K):OpOk P Q ops a apps I M (nth Fs) i o:=
 OpOk.gany hi hg hgs he hFg hF hM fun e ρ u L w r k E hI K hK=>h e ρ w r k E hI K (hK.o w r (hM w r k) hI)
end
section
variable {P:Program} {ops:Array Oper} {Q:Exit→Act→World→Prop} {a:Act} {S:World→Prop} {Fs:List (Value→World→Value→Nat→Prop)} {i:Nat} {o:Oper}
theorem OpOk.gcall {g:Nat} {b c p:Bool} {v:Value} {fn:Func} {cd:Code} {f:FuncId} {xs:Array Operand} {ats:Array TypeId} {args:Array Value} (hg:o.guard=some (g,b)) (hgs:(slotAt ops.toList g).isSome=true) (he:edge ops.toList i g=true) (hFg:nth Fs g=IsF (gv p (.bool c))) (hF:nth Fs i=IsF (gv (p&&(c==b)) v))
  (hgo:∀X X',S X→Below X.heap.size X X'→S X') (ho:o.op=.call { callee:=.value (.func f),args:=xs,argTypes:=ats }) (hf:P.funcs[f]? =some fn) (hname:(fn.name== "runtime.NumGoroutine")=false) (hb:fn.body=some cd)
  (ha:(p&&(c==b))=true→∀(ρ:Operand→Value) (w:World) (r:Value) (k:Nat),Ev ops.toList a Fs i ρ w r k→xs.map ρ=args)
  (h:(p&&(c==b))=true→∀w,S w→Calls P f args w fun e w'=>e=.returned v∧Below w.heap.size w w'):OpOk P Q ops a [] (StI S) StM (nth Fs) i o:=
 OpOk.gany rfl hg hgs he hFg hF StM.rf fun e ρ u L w r k E hI K hK=>zcjZ ho hf hname hb (E.f f) (ha e ρ w r k E) ((h e w hI).mono fun x w' ⟨h1,h2⟩=>⟨v,h1,hK.o w' r h2 (hgo w w' hI h2)⟩)
end
theorem zbkZ {P:Program} {o:Oper} {ρ:Operand→Value} {w:World} {K:Value→World→Prop} {c x:Operand} {b e:Bool} (ho:o.op=.pick c x (.const (.bool false))) (hcst:∀v,ρ (.const v)=v) (hc:ρ c=.bool b) (hx:b=true→ρ x=.bool e) (h:K (.bool (b&&e)) w):opWp P o ρ w K:=by
 unfold opWp execOp
 rw[ho]
 simp only[hc,asBool,hcst]
 cases b with
 | false=>exact h
 | true=>simp only[Sem.run_bind,Sem.run_pure,Result.andThen_ok,if_true,hx rfl,upon2];exact h
theorem zbhZ {P:Program} {o:Oper} {ρ:Operand→Value} {w:World} {K:Value→World→Prop} {c y:Operand} {b e:Bool} (ho:o.op=.pick c (.const (.bool true)) y) (hcst:∀v,ρ (.const v)=v) (hc:ρ c=.bool b) (hy:b=false→ρ y=.bool e) (h:K (.bool (b||e)) w):opWp P o ρ w K:=by
 unfold opWp execOp
 rw[ho]
 simp only[hc,asBool,hcst]
 cases b with
 | true=>exact h
 | false=>simp only[Sem.run_bind,Sem.run_pure,Result.andThen_ok,if_false,hy rfl,upon2];exact h
section
variable {ops:Array Oper} {Q:Exit→Act→World→Prop} {a:Act} {S:World→Prop} {Fs:List (Value→World→Value→Nat→Prop)} {i:Nat} {o:Oper} {cs:Array Value} {L:Nat}
theorem OpOk.gfld {g d j:Nat} {b c p:Bool} (hX:∀w,S w→w.heap[L]? =some (.cells cs 39 (0,0))) (hg:o.guard=some (g,b)) (hgs:(slotAt ops.toList g).isSome=true) (he:edge ops.toList i g=true) (hFg:nth Fs g=IsF (gv p (.bool c))) (hF:nth Fs i=IsF (gv (p&&(c==b)) (.pointer (some ⟨L,j,none⟩))))
  (ho:o.op=.fieldAddr 39 (.tmp d) j) (hj:decide (j≤6)=true) (hx:∀(ρ:Operand→Value) (w:World) (r:Value) (k:Nat),Ev ops.toList a Fs i ρ w r k→ρ (.tmp d)=.pointer (some ⟨L,0,none⟩)):OpOk Tryz.prog Q ops a [] (StI S) StM (nth Fs) i o:=
 OpOk.gval rfl hg hgs he hFg hF StM.rf fun _ ρ w r k E hI K hK=>ziqZ (P:= Tryz.prog) ho (of_decide_eq_true hj) (hx ρ w r k E) (zaZ (hX w hI)) hK
theorem OpOk.gld {g d j q:Nat} {b c p:Bool} {T:TypeId} {v:Value} (hX:∀w,S w→w.heap[L]? =some (.cells cs 39 (0,0))) (hg:o.guard=some (g,b)) (hgs:(slotAt ops.toList g).isSome=true) (he:edge ops.toList i g=true) (hFg:nth Fs g=IsF (gv p (.bool c))) (hF:nth Fs i=IsF (gv (p&&(c==b)) v))
  (hq:nth Fs q=IsF (gv (p&&(c==b)) (.pointer (some ⟨L,j,none⟩)))) (ho:o.op=.load T (.tmp d)) (hT:[3, 9, 24, 22, 37].contains T=true) (hr:reads ops.toList i d q=true) (hc:cs[j]? =some v):OpOk Tryz.prog Q ops a [] (StI S) StM (nth Fs) i o:=
 OpOk.gval rfl hg hgs he hFg hF StM.rf fun hp ρ w r k E hI K hK=>zkwZ ho hT ((E.e d q hr hq).trans (zgZ hp)) ((zdZ (hX w hI) j).trans hc) hK
end
end Go.Proofs.YtdncljdfmdgdaaaGreatDoor
namespace Go.Proofs.YtdncljdfmdgdaaaGreatDoor
open Go.RowKit Go.Shelf
attribute [local go_sem] opWp zbaZ zbcZ zbbZ
def Sx.okA (k:Int) (s:Lx.Bytes) (tl:Nat) (ns:List Lx.Bytes) (m:Nat):Bool:=
 (if Sx.shP k=-1 then m==ns.length else ns.isEmpty&&(if Sx.shP k=-2 then decide (1≤m)else decide ((m:Int)=Sx.shP k)))&&(decide ((tl:Int)=Sx.shT k)&&(Sx.sd (Sx.shS k) s&&Sx.apart NM ns))
def Sx.okN (k n:Int):Bool:=decide (n=0)||(decide (k=1∧0≤n)||decide (k=3∧0≤n∧n≤1))
theorem Sx.said_all (s:Lx.Bytes):NM.said s=s.all Lx.saidB:=by
 show isTok 5 s=_
 rw[←zfvZ,(Lx.one_written (t:=⟨0,5,s,0⟩) (by show(0:Int)≤_;decide)).1,Lx.text_written]
theorem Sx.shapeX_split {k n:Int} {s:Lx.Bytes} {t:List Sx.Ty} {ns:List Lx.Bytes} {m:Nat} (h1:1≤k) (h2:k≤21):Sx.shapeX NM k n s t ns m=(Sx.okA k s t.length ns m&&(Sx.okN k n&&Sx.rightTs NM 64 t)):=by
 have hk:k=1∨k=2∨k=3∨k=4∨k=5∨k=6∨k=7∨k=8∨k=9∨k=10∨k=11∨k=12∨k=13∨k=14∨k=15∨k=16∨k=17∨k=18∨k=19∨k=20∨k=21:=by omega
 have H0:∀z:Nat,decide ((m:Int)=(z:Int))=(m==z):=fun z=>by rw[Bool.eq_iff_iff];simp;omega
 have ht:∀z:Nat,decide (((z:Int)+1)=1)=(z==0):=fun z=>by rw[Bool.eq_iff_iff];simp;omega
 have e0:decide ((m:Int)=0)=(m==0):=H0 0
 have e1:decide ((m:Int)=1)=(m==1):=H0 1
 have e2:decide ((m:Int)=2)=(m==2):=H0 2
 rcases hk with rfl | rfl | rfl | rfl | rfl | rfl | rfl | rfl | rfl | rfl | rfl | rfl | rfl | rfl | rfl | rfl | rfl | rfl | rfl | rfl | rfl
 all_goals
  cases ns <;> cases t <;> simp[Sx.shapeX,Sx.okA,Sx.okN,Sx.shP,Sx.shT,Sx.shS,Sx.sd,Sx.said_all,Sx.apart,Sx.rightTs,e0,e1,e2,ht,Bool.and_assoc,Bool.and_comm,Bool.and_left_comm]
 all_goals first | rfl | (intros;omega) | exact congrArg _ (congrArg _ (Bool.and_left_comm _ _ _))
def RefXOk (x:Sx.Ex):Prop:=∀(d:Nat) (v:Value) (w0 W:World),d≤64→LW w0 W→IsEx W v x→Sx.sizeX x≤1000000→
 Calls Tryz.prog 33 #[v,.int .i64 (d:Nat)] W fun e W'=>e=.returned (.bool (Sx.rightX NM d x))∧LW W W'
theorem Sx.rightXs_iff {N:Sx.Names} : ∀(l:List Sx.Ex) (d0 d:Nat),Sx.rightXs N d0 d l=true↔∀(i:Nat) (h:i<l.length),Sx.rightX N (if i=0 then d0 else d) (l[i]'h)=true
 | [],d0,d=>by simp[Sx.rightXs]
 | x::l,d0,d=>by
  rw[Sx.rightXs,Bool.and_eq_true,Sx.rightXs_iff l d d]
  constructor
  ·rintro⟨h1,h2⟩ i h
   cases i with
   | zero=>exact h1
   | succ i=>
    have:=h2 i (by simpa using h)
    rw[if_neg (by omega)]
    split at this <;> exact this
  ·intro h
   refine⟨h 0 (Nat.succ_pos _),fun i hi=>?_⟩
   have:=h (i+1) (by simpa using hi)
   rw[if_neg (by omega)]at this
   split <;> exact this
theorem Sx.rightTs_iff {N:Sx.Names} {d:Nat} : ∀(l:List Sx.Ty),Sx.rightTs N d l=true↔∀(i:Nat) (h:i<l.length),Sx.rightT N d (l[i]'h)=true
 | []=>by simp[Sx.rightTs]
 | x::l=>by
  rw[Sx.rightTs,Bool.and_eq_true,Sx.rightTs_iff l]
  constructor
  ·rintro⟨h1,h2⟩ i h
   cases i with
   | zero=>exact h1
   | succ i=>exact h2 i (by simpa using h)
  ·intro h
   exact⟨h 0 (Nat.succ_pos _),fun i hi=>h (i+1) (by simpa using hi)⟩
theorem refB4 (kd:Int) (s:Lx.Bytes) (tl:Nat) (ns:List Lx.Bytes) (k:Nat) (h1:1≤kd) (h2:kd≤21):((((((((decide (0≤(Sx.shP kd)))&&(((k:Nat):Int) != (Sx.shP kd)))||(((Sx.shP kd)==-2)&&(decide (((k:Nat):Int)<1))))||(((Sx.shP kd)==-1)&&(((k:Nat):Int) != ((ns.length:Nat):Int))))||((decide (0≤(Sx.shN kd)))&&(((ns.length:Nat):Int) != 0)))||(((tl:Nat):Int) != (Sx.shT kd)))||(!Sx.sd (Sx.shS kd) s))||(!Sx.apart NM ns))=!(Sx.okA kd s tl ns k):=by
 have hk:kd=1∨kd=2∨kd=3∨kd=4∨kd=5∨kd=6∨kd=7∨kd=8∨kd=9∨kd=10∨kd=11∨kd=12∨kd=13∨kd=14∨kd=15∨kd=16∨kd=17∨kd=18∨kd=19∨kd=20∨kd=21:=by omega
 have H0:ns.isEmpty=decide (ns.length=0):=by cases ns <;> simp
 unfold Sx.okA
 rw[H0]
 generalize Sx.sd (Sx.shS kd) s=sb
 generalize Sx.apart NM ns=ab
 generalize ns.length=nn
 rcases hk with rfl | rfl | rfl | rfl | rfl | rfl | rfl | rfl | rfl | rfl | rfl | rfl | rfl | rfl | rfl | rfl | rfl | rfl | rfl | rfl | rfl
 all_goals
  rw[Bool.eq_iff_iff]
  cases sb <;> cases ab <;> simp[Sx.shP,Sx.shN,Sx.shT]
 all_goals omega
theorem refB6 (kd nn:Int):((nn != 0)&&((((kd != 1)&&(kd != 3))||(decide (nn<0)))||((kd==3)&&(decide (1<nn)))))=!(Sx.okN kd nn):=by
 unfold Sx.okN
 rw[Bool.eq_iff_iff]
 simp
 omega
theorem zntZ (x:Sx.Ex) (ih:∀p∈x.parts,RefXOk p):RefXOk x:=by
 intro d v w0 W hd h0 ht J4
 have hG:=h0.self
 obtain⟨At,ct,An,cn,Ap,cp,rfl,htt,hnm,hp,hn0,hn1⟩:=ht.agg
 have J0:=Sx.sizeX_parts x
 have J3:=Sx.length_sizeXs x.parts
 have Hz:=Sx.length_size x.t
 have Hv:=fun s (hs:s∈x.names)=>Sx.nameX_len (t:=x) hs
 obtain⟨nl,hnle⟩:=zE (x.names.length)
 obtain⟨tl,htl⟩:=zE (x.t.length)
 obtain⟨k,hk⟩:=zE (x.parts.length)
 obtain⟨kd,hkd⟩:=zE (x.kind)
 obtain⟨nn,hnn⟩:=zE (x.n)
 have Hi:=zh (show ∀d,Sx.rightX NM (d+1) x=(Sx.shapeX NM kd nn x.s x.t x.names k&&Sx.rightXs NM (if Sx.flat kd then d+1 else d) d x.parts)from fun d=>by rw[←hkd,←hnn,←hk];cases x;rw[Sx.rightX];rfl)
 have Jd:=zh hnm
 rw[hnle]at hnm J0
 rw[htl]at htt Hz
 rw[hk]at hp J3
 rw[hkd,hnn,hnle,htl,hk]
 rw[hnn]at hn0 hn1
 have k0:(0:Int)≤(k:Int):=by omega
 have k1:(k:Int)≤1000000:=by omega
 have t0:(0:Int)≤(tl:Int):=by omega
 have t1:(tl:Int)≤1000000:=by omega
 have HP:=zh hp
 have HT:=zh htt
 have Hw:=zh (fun p (hp:p∈x.parts)=>(show Sx.sizeX p≤1000000∧RefXOk p from⟨by have:=Sx.sizeX_mem hp;omega,ih p hp⟩))
 have Jh:=zh (show ∀p∈x.t,Sx.size p≤1000000 from fun p hp=>by have:=Sx.size_mem hp;omega)
 have HK:=zh hk
 have Hu:=zh htl
 have Jf:=zh hnle
 have J6:=zh (fun X (hX:LW W X)=>(zhaZ hX x.names _ (Jd.o.below hX.b) (by omega) (fun s hs=>by have:=Hv s hs;omega)).mono fun e w2 h=>(show e=.returned (.bool (Sx.apart NM x.names))∧Below X.heap.size X w2 from⟨h.1,h.2.b⟩))
 rw[hnle]at J6
 have Hp:=zh (fun c (hc:c=110∨c=84∨c=115∨c=45) X (hX:LW W X)=>(zstZ hX x.s (by omega) c hc).mono fun e w2 h=>(show e=.returned (.bool (Sx.sd c x.s))∧Below X.heap.size X w2 from⟨h.1,h.2.b⟩))
 have Jn:=zh J4
 have Ji:=zh hG
 obtain⟨L,hL⟩:=zE (W.heap.size)
 obtain⟨w2,hw2⟩:=zE (W.alloc (.cells #[.int .i64 x.pos,.int .i64 kd,.int .i64 nn,.string ⟨x.s.toArray⟩,.slice At tl ct,.slice An nl cn,.slice Ap k cp] 39))
 have hS2:(fun X=>LW W X∧X.heap[L]? =some (.cells #[.int .i64 x.pos,.int .i64 kd,.int .i64 nn,.string ⟨x.s.toArray⟩,.slice At tl ct,.slice An nl cn,.slice Ap k cp] 39 (0,0))) w2:=⟨by rw[←hw2];exact hG.alloc _,by rw[←hw2,←hL];exact heap_alloc_new W _⟩
 have H2:=zh hS2
 have Ha:=zh (show ∀X X',(fun X=>LW W X∧X.heap[L]? =some (.cells #[.int .i64 x.pos,.int .i64 kd,.int .i64 nn,.string ⟨x.s.toArray⟩,.slice At tl ct,.slice An nl cn,.slice Ap k cp] 39 (0,0))) X→Below X.heap.size X X'→(fun X=>LW W X∧X.heap[L]? =some (.cells #[.int .i64 x.pos,.int .i64 kd,.int .i64 nn,.string ⟨x.s.toArray⟩,.slice At tl ct,.slice An nl cn,.slice Ap k cp] 39 (0,0))) X' from fun X X2 h hb=>⟨h.1.go hb,(hb.block _ (zaZ h.2)).trans h.2⟩)
 obtain⟨x0,x1,x2,x3,x4,x5,x6⟩:=zbZ hS2.2
 have Hc:=zaZ hS2.2
 clear ht htt hnm hp hn0 hn1 J0 J3 Hz Hv hnle htl hk hkd hnn ih J4 h0 hG hS2
 cases d with
 | zero=>
  go_enter Tryz.func33, Tryz.ntmps33
  go_wp2_with fail
  go_ret
  exact⟨by cases x;rfl,H2.o.1⟩
 | succ d=>
 obtain⟨e,he⟩:∃e:Int,((d+1:Nat):Int)=e:=⟨_,rfl⟩
 have Jk:(e==0)=false:=by rw[beq_eq_false_iff_ne];omega
 have Jm:1≤e∧e≤64:=by omega
 have Jl:IntKind.i64.wrap (e-1)=e-1:=by rw[IntKind.wrap_i64];omega
 have Hy:=zh (show e-1=((d:Nat):Int)by omega)
 have J9:=zh he
 have Je:=zh hd
 rw[he]
 clear he hd
 by_cases hk1:kd<1
 ·have HF:=zh (show Sx.rightX NM (d+1) x=false by rw[Hi.o];unfold Sx.shapeX;rw[decide_eq_false (by omega)];rfl)
  go_enter Tryz.func33, Tryz.ntmps33
  go_wp2_with fail
  go_ret
  exact⟨by rw[HF.o];rfl,H2.o.1⟩
 by_cases hk2:21<kd
 ·have HF:=zh (show Sx.rightX NM (d+1) x=false by rw[Hi.o];unfold Sx.shapeX;rw[decide_eq_false (by omega)];rfl)
  go_enter Tryz.func33, Tryz.ntmps33
  go_wp2_with fail
  go_ret
  exact⟨by rw[HF.o];rfl,H2.o.1⟩
 have Hj:1≤kd:=by omega
 have Ho:kd≤21:=by omega
 have Hh:=refB4 kd x.s tl x.names k Hj Ho
 have Ht:=refB6 kd nn
 have Hk:=zh (Sx.shapeX_split (n:=nn) (s:=x.s) (t:=x.t) (ns:=x.names) (m:=k) Hj Ho)
 rw[Hu.o]at Hk
 rw[Jf.o]at Hh
 have J8:Sx.shS kd=110∨Sx.shS kd=84∨Sx.shS kd=115∨Sx.shS kd=45:=by unfold Sx.shS;split;omega;split;omega;split <;> omega
 have J7:=zh (Hp.o (Sx.shS kd) J8)
 have J1:=zh (zssZ kd w2 Hj Ho)
 obtain⟨pp,hpp⟩:=zE (Sx.shP kd)
 obtain⟨pn,hpn⟩:=zE (Sx.shN kd)
 obtain⟨pt,hpt⟩:=zE (Sx.shT kd)
 obtain⟨qs,hqs⟩:=zE (Sx.shS kd)
 obtain⟨ki,Hq⟩:∃q:Int,((k:Nat):Int)=q:=⟨_,rfl⟩
 obtain⟨ni,hni⟩:∃q:Int,((nl:Nat):Int)=q:=⟨_,rfl⟩
 obtain⟨ti,Hr⟩:∃q:Int,((tl:Nat):Int)=q:=⟨_,rfl⟩
 rw[hpp,hpn,hpt,hqs,Hq,hni,Hr]at Hh
 rw[hqs]at J7
 rw[hpp,hpn,hpt,hqs]at J1
 have Hh:=zh Hh
 have Ht:=zh Ht
 have HQ:=zh (And.intro Hj Ho)
 have Jj:=zh (And.intro Hq Hr)
 clear hpp hpn hpt hqs J8
 go_enter Tryz.func33, Tryz.ntmps33
 go_upto_region 4 with(go_at_call 73;refine J1.o.mono ?_;rintro e w3 ⟨rfl,rfl⟩)
 clear x0 x1 x2 x3 x4 x5 x6 Hc
 have hS0:=H2.o
 obtain⟨Fs,hFs⟩:∃F:List (Value→World→Value→Nat→Prop),(let b2:Bool:=(decide (0≤pp));let b9:Bool:=((decide (0≤pp))&&(ki != pp));let b12:Bool:=(pp==-2);let b19:Bool:=(((decide (0≤pp))&&(ki != pp))||((pp==-2)&&(decide (ki<1))));let b22:Bool:=(pp==-1);let b32:Bool:=((((decide (0≤pp))&&(ki != pp))||((pp==-2)&&(decide (ki<1))))||((pp==-1)&&(ki != ni)));let b35:Bool:=(decide (0≤pn));let b42:Bool:=(((((decide (0≤pp))&&(ki != pp))||((pp==-2)&&(decide (ki<1))))||((pp==-1)&&(ki != ni)))||((decide (0≤pn))&&(ni != 0)));let b49:Bool:=((((((decide (0≤pp))&&(ki != pp))||((pp==-2)&&(decide (ki<1))))||((pp==-1)&&(ki != ni)))||((decide (0≤pn))&&(ni != 0)))||(ti != pt));let b56:Bool:=(((((((decide (0≤pp))&&(ki != pp))||((pp==-2)&&(decide (ki<1))))||((pp==-1)&&(ki != ni)))||((decide (0≤pn))&&(ni != 0)))||(ti != pt))||(!Sx.sd qs x.s));[IsF (.int .i64 pp),IsF (.bool (decide (0≤pp))),IsF (.bool (decide (0≤pp))),IsF (gv (true&&(b2==true)) (.pointer (some ⟨L,6,none⟩))),IsF (gv (true&&(b2==true)) (.slice Ap k cp)),IsF (gv (true&&(b2==true)) (.int .i64 ki)),IsF (gv (true&&(b2==true)) (.int .i64 pp)),IsF (gv (true&&(b2==true)) (.bool (ki != pp))),IsF (.bool ((decide (0≤pp))&&(ki != pp))),IsF (.bool ((decide (0≤pp))&&(ki != pp))),IsF (gv (true&&(b9==false)) (.int .i64 pp)),IsF (gv (true&&(b9==false)) (.bool (pp==-2))),IsF (gv (true&&(b9==false)) (.bool (pp==-2))),IsF (gv ((true&&(b9==false))&&(b12==true)) (.pointer (some ⟨L,6,none⟩))),IsF (gv ((true&&(b9==false))&&(b12==true)) (.slice Ap k cp)),IsF (gv ((true&&(b9==false))&&(b12==true)) (.int .i64 ki)),IsF (gv ((true&&(b9==false))&&(b12==true)) (.bool (decide (ki<1)))),IsF (gv (true&&(b9==false)) (.bool ((pp==-2)&&(decide (ki<1))))),IsF (.bool (((decide (0≤pp))&&(ki != pp))||((pp==-2)&&(decide (ki<1))))),IsF (.bool (((decide (0≤pp))&&(ki != pp))||((pp==-2)&&(decide (ki<1))))),IsF (gv (true&&(b19==false)) (.int .i64 pp)),IsF (gv (true&&(b19==false)) (.bool (pp==-1))),IsF (gv (true&&(b19==false)) (.bool (pp==-1))),IsF (gv ((true&&(b19==false))&&(b22==true)) (.pointer (some ⟨L,6,none⟩))),IsF (gv ((true&&(b19==false))&&(b22==true)) (.slice Ap k cp)),IsF (gv ((true&&(b19==false))&&(b22==true)) (.int .i64 ki)),IsF (gv ((true&&(b19==false))&&(b22==true)) (.pointer (some ⟨L,5,none⟩))),IsF (gv ((true&&(b19==false))&&(b22==true)) (.slice An nl cn)),IsF (gv ((true&&(b19==false))&&(b22==true)) (.int .i64 ni)),IsF (gv ((true&&(b19==false))&&(b22==true)) (.bool (ki != ni))),IsF (gv (true&&(b19==false)) (.bool ((pp==-1)&&(ki != ni)))),IsF (.bool ((((decide (0≤pp))&&(ki != pp))||((pp==-2)&&(decide (ki<1))))||((pp==-1)&&(ki != ni)))),IsF (.bool ((((decide (0≤pp))&&(ki != pp))||((pp==-2)&&(decide (ki<1))))||((pp==-1)&&(ki != ni)))),IsF (gv (true&&(b32==false)) (.int .i64 pn)),IsF (gv (true&&(b32==false)) (.bool (decide (0≤pn)))),IsF (gv (true&&(b32==false)) (.bool (decide (0≤pn)))),IsF (gv ((true&&(b32==false))&&(b35==true)) (.pointer (some ⟨L,5,none⟩))),IsF (gv ((true&&(b32==false))&&(b35==true)) (.slice An nl cn)),IsF (gv ((true&&(b32==false))&&(b35==true)) (.int .i64 ni)),IsF (gv ((true&&(b32==false))&&(b35==true)) (.bool (ni != 0))),IsF (gv (true&&(b32==false)) (.bool ((decide (0≤pn))&&(ni != 0)))),IsF (.bool (((((decide (0≤pp))&&(ki != pp))||((pp==-2)&&(decide (ki<1))))||((pp==-1)&&(ki != ni)))||((decide (0≤pn))&&(ni != 0)))),IsF (.bool (((((decide (0≤pp))&&(ki != pp))||((pp==-2)&&(decide (ki<1))))||((pp==-1)&&(ki != ni)))||((decide (0≤pn))&&(ni != 0)))),IsF (gv (true&&(b42==false)) (.pointer (some ⟨L,4,none⟩))),IsF (gv (true&&(b42==false)) (.slice At tl ct)),IsF (gv (true&&(b42==false)) (.int .i64 ti)),IsF (gv (true&&(b42==false)) (.int .i64 pt)),IsF (gv (true&&(b42==false)) (.bool (ti != pt))),IsF (.bool ((((((decide (0≤pp))&&(ki != pp))||((pp==-2)&&(decide (ki<1))))||((pp==-1)&&(ki != ni)))||((decide (0≤pn))&&(ni != 0)))||(ti != pt))),IsF (.bool ((((((decide (0≤pp))&&(ki != pp))||((pp==-2)&&(decide (ki<1))))||((pp==-1)&&(ki != ni)))||((decide (0≤pn))&&(ni != 0)))||(ti != pt))),IsF (gv (true&&(b49==false)) (.pointer (some ⟨L,3,none⟩))),IsF (gv (true&&(b49==false)) (.string ⟨x.s.toArray⟩)),IsF (gv (true&&(b49==false)) (.int .u8 qs)),IsF (gv (true&&(b49==false)) (.bool (Sx.sd qs x.s))),IsF (gv (true&&(b49==false)) (.bool (!Sx.sd qs x.s))),IsF (.bool (((((((decide (0≤pp))&&(ki != pp))||((pp==-2)&&(decide (ki<1))))||((pp==-1)&&(ki != ni)))||((decide (0≤pn))&&(ni != 0)))||(ti != pt))||(!Sx.sd qs x.s))),IsF (.bool (((((((decide (0≤pp))&&(ki != pp))||((pp==-2)&&(decide (ki<1))))||((pp==-1)&&(ki != ni)))||((decide (0≤pn))&&(ni != 0)))||(ti != pt))||(!Sx.sd qs x.s))),IsF (gv (true&&(b56==false)) (.pointer (some ⟨L,5,none⟩))),IsF (gv (true&&(b56==false)) (.slice An nl cn)),IsF (gv (true&&(b56==false)) (.bool (Sx.apart NM x.names))),IsF (gv (true&&(b56==false)) (.bool (!Sx.apart NM x.names))),IsF (.bool ((((((((decide (0≤pp))&&(ki != pp))||((pp==-2)&&(decide (ki<1))))||((pp==-1)&&(ki != ni)))||((decide (0≤pn))&&(ni != 0)))||(ti != pt))||(!Sx.sd qs x.s))||(!Sx.apart NM x.names)))])=F:=⟨_,rfl⟩
 obtain⟨F0,F1,F2,F3,F4,F5,F6,F7,F8,F9,F10,F11,F12,F13,F14,F15,F16,F17,F18,F19,F20,F21,F22,F23,F24,F25,F26,F27,F28,F29,F30,F31,F32,F33,F34,F35,F36,F37,F38,F39,F40,F41,F42,F43,F44,F45,F46,F47,F48,F49,F50,F51,F52,F53,F54,F55,F56,F57,F58,F59,F60,F61,-⟩:=zwZ hFs
 have H3:AllStay StM Fs:=by rw[←hFs];repeat first | exact .nil | refine .cons IsF.stays ?_
 clear hFs
 refine zqZ [] (StI (fun X=>LW W X∧X.heap[L]? =some (.cells #[.int .i64 x.pos,.int .i64 kd,.int .i64 nn,.string ⟨x.s.toArray⟩,.slice At tl ct,.slice An nl cn,.slice Ap k cp] 39 (0,0)))) StM Fs undef (by kernel_rfl) (by kernel_rfl) (by kernel_rfl) (by kernel_rfl) (by kernel_rfl) H3 (n:=62) (by kernel_rfl) (hS0) ?_ ?_
 ·repeat' first | refine OpsOk.cons ?_ ?_ | fail
  ·refine OpOk.val rfl rfl F0 StM.rf fun ρ w r ka E hI K hK=>?_
   exact znZ (.tmp 5) rfl (show ρ (.tmp 5)=.int .i64 pp from E.n 5 (by kernel_rfl)) hK
  ·refine OpOk.val rfl rfl F1 StM.rf fun ρ w r ka E hI K hK=>?_
   have e32:=E.e 32 0 (by kernel_rfl) F0
   have c:=E.c
   go_simp
   exact hK
  ·refine OpOk.val rfl rfl F2 StM.rf fun ρ w r ka E hI K hK=>?_
   exact znZ (.tmp 33) rfl (show ρ (.tmp 33)=.bool (decide (0≤pp))from E.e 33 1 (by kernel_rfl) F1) hK
  ·exact OpOk.gfld (p:=true) (c:=(decide (0≤pp))) (fun w h=>h.2) rfl (by kernel_rfl) (by kernel_rfl) F2 F3 rfl rfl fun ρ w r ka E=>E.n 2 (by kernel_rfl)
  ·exact OpOk.gld (p:=true) (c:=(decide (0≤pp))) (fun w h=>h.2) rfl (by kernel_rfl) (by kernel_rfl) F2 F4 F3 rfl rfl (by kernel_rfl) rfl
  ·refine OpOk.gval (p:=true) (c:=(decide (0≤pp))) rfl rfl (by kernel_rfl) (by kernel_rfl) F2 F5 StM.rf fun hp ρ w r ka E hI K hK=>?_
   have e36:=(E.e 36 4 (by kernel_rfl) F4).trans (zgZ hp)
   go_simp
   exact hK
  ·refine OpOk.gval (p:=true) (c:=(decide (0≤pp))) rfl rfl (by kernel_rfl) (by kernel_rfl) F2 F6 StM.rf fun hp ρ w r ka E hI K hK=>?_
   exact znZ (.tmp 5) rfl (show ρ (.tmp 5)=.int .i64 pp from E.n 5 (by kernel_rfl)) hK
  ·refine OpOk.gval (p:=true) (c:=(decide (0≤pp))) rfl rfl (by kernel_rfl) (by kernel_rfl) F2 F7 StM.rf fun hp ρ w r ka E hI K hK=>?_
   have e37:=(E.e 37 5 (by kernel_rfl) F5).trans (zgZ hp)
   have e38:=(E.e 38 6 (by kernel_rfl) F6).trans (zgZ hp)
   go_simp
   exact hK
  ·refine OpOk.val rfl rfl F8 StM.rf fun ρ w r ka E hI K hK=>?_
   exact zbkZ rfl E.c (show ρ (.tmp 34)=.bool (decide (0≤pp))from E.e 34 2 (by kernel_rfl) F2) (fun h=>(E.e 39 7 (by kernel_rfl) F7).trans (zgZ (by rw[h];rfl))) hK
  ·refine OpOk.val rfl rfl F9 StM.rf fun ρ w r ka E hI K hK=>?_
   exact znZ (.tmp 40) rfl (show ρ (.tmp 40)=.bool ((decide (0≤pp))&&(ki != pp))from E.e 40 8 (by kernel_rfl) F8) hK
  ·refine OpOk.gval (p:=true) (c:=((decide (0≤pp))&&(ki != pp))) rfl rfl (by kernel_rfl) (by kernel_rfl) F9 F10 StM.rf fun hp ρ w r ka E hI K hK=>?_
   exact znZ (.tmp 5) rfl (show ρ (.tmp 5)=.int .i64 pp from E.n 5 (by kernel_rfl)) hK
  ·refine OpOk.gval (p:=true) (c:=((decide (0≤pp))&&(ki != pp))) rfl rfl (by kernel_rfl) (by kernel_rfl) F9 F11 StM.rf fun hp ρ w r ka E hI K hK=>?_
   have e42:=(E.e 42 10 (by kernel_rfl) F10).trans (zgZ hp)
   have c:=E.c
   go_simp
   exact hK
  ·refine OpOk.gval (p:=true) (c:=((decide (0≤pp))&&(ki != pp))) rfl rfl (by kernel_rfl) (by kernel_rfl) F9 F12 StM.rf fun hp ρ w r ka E hI K hK=>?_
   exact znZ (.tmp 43) rfl (show ρ (.tmp 43)=.bool (pp==-2)from(E.e 43 11 (by kernel_rfl) F11).trans (zgZ hp)) hK
  ·exact OpOk.gfld (fun w h=>h.2) rfl (by kernel_rfl) (by kernel_rfl) F12 F13 rfl rfl fun ρ w r ka E=>E.n 2 (by kernel_rfl)
  ·exact OpOk.gld (fun w h=>h.2) rfl (by kernel_rfl) (by kernel_rfl) F12 F14 F13 rfl rfl (by kernel_rfl) rfl
  ·refine OpOk.gval rfl rfl (by kernel_rfl) (by kernel_rfl) F12 F15 StM.rf fun hp ρ w r ka E hI K hK=>?_
   have e46:=(E.e 46 14 (by kernel_rfl) F14).trans (zgZ hp)
   go_simp
   exact hK
  ·refine OpOk.gval rfl rfl (by kernel_rfl) (by kernel_rfl) F12 F16 StM.rf fun hp ρ w r ka E hI K hK=>?_
   have e47:=(E.e 47 15 (by kernel_rfl) F15).trans (zgZ hp)
   have c:=E.c
   go_simp
   exact hK
  ·refine OpOk.gval (p:=true) (c:=((decide (0≤pp))&&(ki != pp))) rfl rfl (by kernel_rfl) (by kernel_rfl) F9 F17 StM.rf fun hp ρ w r ka E hI K hK=>?_
   exact zbkZ rfl E.c (show ρ (.tmp 44)=.bool (pp==-2)from(E.e 44 12 (by kernel_rfl) F12).trans (zgZ hp)) (fun h=>(E.e 48 16 (by kernel_rfl) F16).trans (zgZ (by rw[hp,h];rfl))) hK
  ·refine OpOk.val rfl rfl F18 StM.rf fun ρ w r ka E hI K hK=>?_
   exact zbhZ rfl E.c (show ρ (.tmp 41)=.bool ((decide (0≤pp))&&(ki != pp))from E.e 41 9 (by kernel_rfl) F9) (fun h=>(E.e 49 17 (by kernel_rfl) F17).trans (zgZ (by rw[h];rfl))) hK
  ·refine OpOk.val rfl rfl F19 StM.rf fun ρ w r ka E hI K hK=>?_
   exact znZ (.tmp 50) rfl (show ρ (.tmp 50)=.bool (((decide (0≤pp))&&(ki != pp))||((pp==-2)&&(decide (ki<1))))from E.e 50 18 (by kernel_rfl) F18) hK
  ·refine OpOk.gval (p:=true) (c:=(((decide (0≤pp))&&(ki != pp))||((pp==-2)&&(decide (ki<1))))) rfl rfl (by kernel_rfl) (by kernel_rfl) F19 F20 StM.rf fun hp ρ w r ka E hI K hK=>?_
   exact znZ (.tmp 5) rfl (show ρ (.tmp 5)=.int .i64 pp from E.n 5 (by kernel_rfl)) hK
  ·refine OpOk.gval (p:=true) (c:=(((decide (0≤pp))&&(ki != pp))||((pp==-2)&&(decide (ki<1))))) rfl rfl (by kernel_rfl) (by kernel_rfl) F19 F21 StM.rf fun hp ρ w r ka E hI K hK=>?_
   have e52:=(E.e 52 20 (by kernel_rfl) F20).trans (zgZ hp)
   have c:=E.c
   go_simp
   exact hK
  ·refine OpOk.gval (p:=true) (c:=(((decide (0≤pp))&&(ki != pp))||((pp==-2)&&(decide (ki<1))))) rfl rfl (by kernel_rfl) (by kernel_rfl) F19 F22 StM.rf fun hp ρ w r ka E hI K hK=>?_
   exact znZ (.tmp 53) rfl (show ρ (.tmp 53)=.bool (pp==-1)from(E.e 53 21 (by kernel_rfl) F21).trans (zgZ hp)) hK
  ·exact OpOk.gfld (fun w h=>h.2) rfl (by kernel_rfl) (by kernel_rfl) F22 F23 rfl rfl fun ρ w r ka E=>E.n 2 (by kernel_rfl)
  ·exact OpOk.gld (fun w h=>h.2) rfl (by kernel_rfl) (by kernel_rfl) F22 F24 F23 rfl rfl (by kernel_rfl) rfl
  ·refine OpOk.gval rfl rfl (by kernel_rfl) (by kernel_rfl) F22 F25 StM.rf fun hp ρ w r ka E hI K hK=>?_
   have e56:=(E.e 56 24 (by kernel_rfl) F24).trans (zgZ hp)
   go_simp
   exact hK
  ·exact OpOk.gfld (fun w h=>h.2) rfl (by kernel_rfl) (by kernel_rfl) F22 F26 rfl rfl fun ρ w r ka E=>E.n 2 (by kernel_rfl)
  ·exact OpOk.gld (fun w h=>h.2) rfl (by kernel_rfl) (by kernel_rfl) F22 F27 F26 rfl rfl (by kernel_rfl) rfl
  ·refine OpOk.gval rfl rfl (by kernel_rfl) (by kernel_rfl) F22 F28 StM.rf fun hp ρ w r ka E hI K hK=>?_
   have e59:=(E.e 59 27 (by kernel_rfl) F27).trans (zgZ hp)
   go_simp
   exact hK
  ·refine OpOk.gval rfl rfl (by kernel_rfl) (by kernel_rfl) F22 F29 StM.rf fun hp ρ w r ka E hI K hK=>?_
   have e57:=(E.e 57 25 (by kernel_rfl) F25).trans (zgZ hp)
   have e60:=(E.e 60 28 (by kernel_rfl) F28).trans (zgZ hp)
   go_simp
   exact hK
  ·refine OpOk.gval (p:=true) (c:=(((decide (0≤pp))&&(ki != pp))||((pp==-2)&&(decide (ki<1))))) rfl rfl (by kernel_rfl) (by kernel_rfl) F19 F30 StM.rf fun hp ρ w r ka E hI K hK=>?_
   exact zbkZ rfl E.c (show ρ (.tmp 54)=.bool (pp==-1)from(E.e 54 22 (by kernel_rfl) F22).trans (zgZ hp)) (fun h=>(E.e 61 29 (by kernel_rfl) F29).trans (zgZ (by rw[hp,h];rfl))) hK
  ·refine OpOk.val rfl rfl F31 StM.rf fun ρ w r ka E hI K hK=>?_
   exact zbhZ rfl E.c (show ρ (.tmp 51)=.bool (((decide (0≤pp))&&(ki != pp))||((pp==-2)&&(decide (ki<1))))from E.e 51 19 (by kernel_rfl) F19) (fun h=>(E.e 62 30 (by kernel_rfl) F30).trans (zgZ (by rw[h];rfl))) hK
  ·refine OpOk.val rfl rfl F32 StM.rf fun ρ w r ka E hI K hK=>?_
   exact znZ (.tmp 63) rfl (show ρ (.tmp 63)=.bool ((((decide (0≤pp))&&(ki != pp))||((pp==-2)&&(decide (ki<1))))||((pp==-1)&&(ki != ni)))from E.e 63 31 (by kernel_rfl) F31) hK
  ·refine OpOk.gval (p:=true) (c:=((((decide (0≤pp))&&(ki != pp))||((pp==-2)&&(decide (ki<1))))||((pp==-1)&&(ki != ni)))) rfl rfl (by kernel_rfl) (by kernel_rfl) F32 F33 StM.rf fun hp ρ w r ka E hI K hK=>?_
   exact znZ (.tmp 6) rfl (show ρ (.tmp 6)=.int .i64 pn from E.n 6 (by kernel_rfl)) hK
  ·refine OpOk.gval (p:=true) (c:=((((decide (0≤pp))&&(ki != pp))||((pp==-2)&&(decide (ki<1))))||((pp==-1)&&(ki != ni)))) rfl rfl (by kernel_rfl) (by kernel_rfl) F32 F34 StM.rf fun hp ρ w r ka E hI K hK=>?_
   have e65:=(E.e 65 33 (by kernel_rfl) F33).trans (zgZ hp)
   have c:=E.c
   go_simp
   exact hK
  ·refine OpOk.gval (p:=true) (c:=((((decide (0≤pp))&&(ki != pp))||((pp==-2)&&(decide (ki<1))))||((pp==-1)&&(ki != ni)))) rfl rfl (by kernel_rfl) (by kernel_rfl) F32 F35 StM.rf fun hp ρ w r ka E hI K hK=>?_
   exact znZ (.tmp 66) rfl (show ρ (.tmp 66)=.bool (decide (0≤pn))from(E.e 66 34 (by kernel_rfl) F34).trans (zgZ hp)) hK
  ·exact OpOk.gfld (fun w h=>h.2) rfl (by kernel_rfl) (by kernel_rfl) F35 F36 rfl rfl fun ρ w r ka E=>E.n 2 (by kernel_rfl)
  ·exact OpOk.gld (fun w h=>h.2) rfl (by kernel_rfl) (by kernel_rfl) F35 F37 F36 rfl rfl (by kernel_rfl) rfl
  ·refine OpOk.gval rfl rfl (by kernel_rfl) (by kernel_rfl) F35 F38 StM.rf fun hp ρ w r ka E hI K hK=>?_
   have e69:=(E.e 69 37 (by kernel_rfl) F37).trans (zgZ hp)
   go_simp
   exact hK
  ·refine OpOk.gval rfl rfl (by kernel_rfl) (by kernel_rfl) F35 F39 StM.rf fun hp ρ w r ka E hI K hK=>?_
   have e70:=(E.e 70 38 (by kernel_rfl) F38).trans (zgZ hp)
   have c:=E.c
   go_simp
   exact hK
  ·refine OpOk.gval (p:=true) (c:=((((decide (0≤pp))&&(ki != pp))||((pp==-2)&&(decide (ki<1))))||((pp==-1)&&(ki != ni)))) rfl rfl (by kernel_rfl) (by kernel_rfl) F32 F40 StM.rf fun hp ρ w r ka E hI K hK=>?_
   exact zbkZ rfl E.c (show ρ (.tmp 67)=.bool (decide (0≤pn))from(E.e 67 35 (by kernel_rfl) F35).trans (zgZ hp)) (fun h=>(E.e 71 39 (by kernel_rfl) F39).trans (zgZ (by rw[hp,h];rfl))) hK
  ·refine OpOk.val rfl rfl F41 StM.rf fun ρ w r ka E hI K hK=>?_
   exact zbhZ rfl E.c (show ρ (.tmp 64)=.bool ((((decide (0≤pp))&&(ki != pp))||((pp==-2)&&(decide (ki<1))))||((pp==-1)&&(ki != ni)))from E.e 64 32 (by kernel_rfl) F32) (fun h=>(E.e 72 40 (by kernel_rfl) F40).trans (zgZ (by rw[h];rfl))) hK
  ·refine OpOk.val rfl rfl F42 StM.rf fun ρ w r ka E hI K hK=>?_
   exact znZ (.tmp 73) rfl (show ρ (.tmp 73)=.bool (((((decide (0≤pp))&&(ki != pp))||((pp==-2)&&(decide (ki<1))))||((pp==-1)&&(ki != ni)))||((decide (0≤pn))&&(ni != 0)))from E.e 73 41 (by kernel_rfl) F41) hK
  ·exact OpOk.gfld (p:=true) (c:=(((((decide (0≤pp))&&(ki != pp))||((pp==-2)&&(decide (ki<1))))||((pp==-1)&&(ki != ni)))||((decide (0≤pn))&&(ni != 0)))) (fun w h=>h.2) rfl (by kernel_rfl) (by kernel_rfl) F42 F43 rfl rfl fun ρ w r ka E=>E.n 2 (by kernel_rfl)
  ·exact OpOk.gld (p:=true) (c:=(((((decide (0≤pp))&&(ki != pp))||((pp==-2)&&(decide (ki<1))))||((pp==-1)&&(ki != ni)))||((decide (0≤pn))&&(ni != 0)))) (fun w h=>h.2) rfl (by kernel_rfl) (by kernel_rfl) F42 F44 F43 rfl rfl (by kernel_rfl) rfl
  ·refine OpOk.gval (p:=true) (c:=(((((decide (0≤pp))&&(ki != pp))||((pp==-2)&&(decide (ki<1))))||((pp==-1)&&(ki != ni)))||((decide (0≤pn))&&(ni != 0)))) rfl rfl (by kernel_rfl) (by kernel_rfl) F42 F45 StM.rf fun hp ρ w r ka E hI K hK=>?_
   have e76:=(E.e 76 44 (by kernel_rfl) F44).trans (zgZ hp)
   go_simp
   exact hK
  ·refine OpOk.gval (p:=true) (c:=(((((decide (0≤pp))&&(ki != pp))||((pp==-2)&&(decide (ki<1))))||((pp==-1)&&(ki != ni)))||((decide (0≤pn))&&(ni != 0)))) rfl rfl (by kernel_rfl) (by kernel_rfl) F42 F46 StM.rf fun hp ρ w r ka E hI K hK=>?_
   exact znZ (.tmp 7) rfl (show ρ (.tmp 7)=.int .i64 pt from E.n 7 (by kernel_rfl)) hK
  ·refine OpOk.gval (p:=true) (c:=(((((decide (0≤pp))&&(ki != pp))||((pp==-2)&&(decide (ki<1))))||((pp==-1)&&(ki != ni)))||((decide (0≤pn))&&(ni != 0)))) rfl rfl (by kernel_rfl) (by kernel_rfl) F42 F47 StM.rf fun hp ρ w r ka E hI K hK=>?_
   have e77:=(E.e 77 45 (by kernel_rfl) F45).trans (zgZ hp)
   have e78:=(E.e 78 46 (by kernel_rfl) F46).trans (zgZ hp)
   go_simp
   exact hK
  ·refine OpOk.val rfl rfl F48 StM.rf fun ρ w r ka E hI K hK=>?_
   exact zbhZ rfl E.c (show ρ (.tmp 74)=.bool (((((decide (0≤pp))&&(ki != pp))||((pp==-2)&&(decide (ki<1))))||((pp==-1)&&(ki != ni)))||((decide (0≤pn))&&(ni != 0)))from E.e 74 42 (by kernel_rfl) F42) (fun h=>(E.e 79 47 (by kernel_rfl) F47).trans (zgZ (by rw[h];rfl))) hK
  ·refine OpOk.val rfl rfl F49 StM.rf fun ρ w r ka E hI K hK=>?_
   exact znZ (.tmp 80) rfl (show ρ (.tmp 80)=.bool ((((((decide (0≤pp))&&(ki != pp))||((pp==-2)&&(decide (ki<1))))||((pp==-1)&&(ki != ni)))||((decide (0≤pn))&&(ni != 0)))||(ti != pt))from E.e 80 48 (by kernel_rfl) F48) hK
  ·exact OpOk.gfld (p:=true) (c:=((((((decide (0≤pp))&&(ki != pp))||((pp==-2)&&(decide (ki<1))))||((pp==-1)&&(ki != ni)))||((decide (0≤pn))&&(ni != 0)))||(ti != pt))) (fun w h=>h.2) rfl (by kernel_rfl) (by kernel_rfl) F49 F50 rfl rfl fun ρ w r ka E=>E.n 2 (by kernel_rfl)
  ·exact OpOk.gld (p:=true) (c:=((((((decide (0≤pp))&&(ki != pp))||((pp==-2)&&(decide (ki<1))))||((pp==-1)&&(ki != ni)))||((decide (0≤pn))&&(ni != 0)))||(ti != pt))) (fun w h=>h.2) rfl (by kernel_rfl) (by kernel_rfl) F49 F51 F50 rfl rfl (by kernel_rfl) rfl
  ·refine OpOk.gval (p:=true) (c:=((((((decide (0≤pp))&&(ki != pp))||((pp==-2)&&(decide (ki<1))))||((pp==-1)&&(ki != ni)))||((decide (0≤pn))&&(ni != 0)))||(ti != pt))) rfl rfl (by kernel_rfl) (by kernel_rfl) F49 F52 StM.rf fun hp ρ w r ka E hI K hK=>?_
   exact znZ (.tmp 8) rfl (show ρ (.tmp 8)=.int .u8 qs from E.n 8 (by kernel_rfl)) hK
  ·exact OpOk.gcall (p:=true) (c:=((((((decide (0≤pp))&&(ki != pp))||((pp==-2)&&(decide (ki<1))))||((pp==-1)&&(ki != ni)))||((decide (0≤pn))&&(ni != 0)))||(ti != pt))) (args:=#[.string ⟨x.s.toArray⟩,.int .u8 qs]) rfl (by kernel_rfl) (by kernel_rfl) F49 F53 Ha.o rfl Tryz.func74 (by kernel_rfl) rfl (fun hp ρ w r ka E=>by simp only[List.map_toArray,List.map_cons,List.map_nil,(show ρ (.tmp 83)=.string ⟨x.s.toArray⟩from(E.e 83 51 (by kernel_rfl) F51).trans (zgZ hp)),(show ρ (.tmp 84)=.int .u8 qs from(E.e 84 52 (by kernel_rfl) F52).trans (zgZ hp))]) fun hp w hS=>J7.o w hS.1
  ·refine OpOk.gval (p:=true) (c:=((((((decide (0≤pp))&&(ki != pp))||((pp==-2)&&(decide (ki<1))))||((pp==-1)&&(ki != ni)))||((decide (0≤pn))&&(ni != 0)))||(ti != pt))) rfl rfl (by kernel_rfl) (by kernel_rfl) F49 F54 StM.rf fun hp ρ w r ka E hI K hK=>?_
   have e85:=(E.e 85 53 (by kernel_rfl) F53).trans (zgZ hp)
   go_simp
   exact hK
  ·refine OpOk.val rfl rfl F55 StM.rf fun ρ w r ka E hI K hK=>?_
   exact zbhZ rfl E.c (show ρ (.tmp 81)=.bool ((((((decide (0≤pp))&&(ki != pp))||((pp==-2)&&(decide (ki<1))))||((pp==-1)&&(ki != ni)))||((decide (0≤pn))&&(ni != 0)))||(ti != pt))from E.e 81 49 (by kernel_rfl) F49) (fun h=>(E.e 86 54 (by kernel_rfl) F54).trans (zgZ (by rw[h];rfl))) hK
  ·refine OpOk.val rfl rfl F56 StM.rf fun ρ w r ka E hI K hK=>?_
   exact znZ (.tmp 87) rfl (show ρ (.tmp 87)=.bool (((((((decide (0≤pp))&&(ki != pp))||((pp==-2)&&(decide (ki<1))))||((pp==-1)&&(ki != ni)))||((decide (0≤pn))&&(ni != 0)))||(ti != pt))||(!Sx.sd qs x.s))from E.e 87 55 (by kernel_rfl) F55) hK
  ·exact OpOk.gfld (p:=true) (c:=(((((((decide (0≤pp))&&(ki != pp))||((pp==-2)&&(decide (ki<1))))||((pp==-1)&&(ki != ni)))||((decide (0≤pn))&&(ni != 0)))||(ti != pt))||(!Sx.sd qs x.s))) (fun w h=>h.2) rfl (by kernel_rfl) (by kernel_rfl) F56 F57 rfl rfl fun ρ w r ka E=>E.n 2 (by kernel_rfl)
  ·exact OpOk.gld (p:=true) (c:=(((((((decide (0≤pp))&&(ki != pp))||((pp==-2)&&(decide (ki<1))))||((pp==-1)&&(ki != ni)))||((decide (0≤pn))&&(ni != 0)))||(ti != pt))||(!Sx.sd qs x.s))) (fun w h=>h.2) rfl (by kernel_rfl) (by kernel_rfl) F56 F58 F57 rfl rfl (by kernel_rfl) rfl
  ·exact OpOk.gcall (p:=true) (c:=(((((((decide (0≤pp))&&(ki != pp))||((pp==-2)&&(decide (ki<1))))||((pp==-1)&&(ki != ni)))||((decide (0≤pn))&&(ni != 0)))||(ti != pt))||(!Sx.sd qs x.s))) (args:=#[.slice An nl cn]) rfl (by kernel_rfl) (by kernel_rfl) F56 F59 Ha.o rfl Tryz.func68 (by kernel_rfl) rfl (fun hp ρ w r ka E=>by simp only[List.map_toArray,List.map_cons,List.map_nil,(show ρ (.tmp 90)=.slice An nl cn from(E.e 90 58 (by kernel_rfl) F58).trans (zgZ hp))]) fun hp w hS=>J6.o w hS.1
  ·refine OpOk.gval (p:=true) (c:=(((((((decide (0≤pp))&&(ki != pp))||((pp==-2)&&(decide (ki<1))))||((pp==-1)&&(ki != ni)))||((decide (0≤pn))&&(ni != 0)))||(ti != pt))||(!Sx.sd qs x.s))) rfl rfl (by kernel_rfl) (by kernel_rfl) F56 F60 StM.rf fun hp ρ w r ka E hI K hK=>?_
   have e91:=(E.e 91 59 (by kernel_rfl) F59).trans (zgZ hp)
   go_simp
   exact hK
  ·refine OpOk.val rfl rfl F61 StM.rf fun ρ w r ka E hI K hK=>?_
   exact zbhZ rfl E.c (show ρ (.tmp 88)=.bool (((((((decide (0≤pp))&&(ki != pp))||((pp==-2)&&(decide (ki<1))))||((pp==-1)&&(ki != ni)))||((decide (0≤pn))&&(ni != 0)))||(ti != pt))||(!Sx.sd qs x.s))from E.e 88 56 (by kernel_rfl) F56) (fun h=>(E.e 92 60 (by kernel_rfl) F60).trans (zgZ (by rw[h];rfl))) hK
  ·exact .nil
 ·intro uq wq rq hI hF
  have hSz:=hI
  have f61:uq 61=.bool ((((((((decide (0≤pp))&&(ki != pp))||((pp==-2)&&(decide (ki<1))))||((pp==-1)&&(ki != ni)))||((decide (0≤pn))&&(ni != 0)))||(ti != pt))||(!Sx.sd qs x.s))||(!Sx.apart NM x.names)):=zmZ F61 (hF 61 (by decide))
  simp only[List.toList_toArray,fillAct,Act.put,List.setIfInBounds_toArray,List.set_cons_zero,List.set_cons_succ,f61]
  clear hI hF F0 F1 F2 F3 F4 F5 F6 F7 F8 F9 F10 F11 F12 F13 F14 F15 F16 F17 F18 F19 F20 F21 F22 F23 F24 F25 F26 F27 F28 F29 F30 F31 F32 F33 F34 F35 F36 F37 F38 F39 F40 F41 F42 F43 F44 F45 F46 F47 F48 F49 F50 F51 F52 F53 F54 F55 F56 F57 F58 F59 F60 F61 H3 f61
  rw[Hh.o]
  have Hm:=zh hSz
  clear hSz
  obtain⟨x0,x1,x2,x3,x4,x5,x6⟩:=zbZ Hm.o.2
  have Hc:=zaZ Hm.o.2
  cases hA:Sx.okA kd x.s tl x.names k with
  | false=>
   have HF:=zh (show Sx.rightX NM (d+1) x=false by rw[Hi.o,Hk.o,hA];rfl)
   clear hA
   go_wp2_with fail
   go_ret
   exact⟨by rw[HF.o];rfl,Hm.o.1⟩
  | true=>
   have HA:=zh hA
   clear hA
   go_upto_region 6 with fail
   clear x0 x1 x2 x3 x4 x5 x6 Hc
   have hS1:=Hm.o
   obtain⟨Fs,hFs⟩:∃F:List (Value→World→Value→Nat→Prop),(let b3:Bool:=(nn != 0);let b7:Bool:=(kd != 1);let b12:Bool:=((kd != 1)&&(kd != 3));let b17:Bool:=(((kd != 1)&&(kd != 3))||(decide (nn<0)));let b21:Bool:=(kd==3);[IsF (.pointer (some ⟨L,2,none⟩)),IsF (.int .i64 nn),IsF (.bool (nn != 0)),IsF (.bool (nn != 0)),IsF (gv (true&&(b3==true)) (.pointer (some ⟨L,1,none⟩))),IsF (gv (true&&(b3==true)) (.int .i64 kd)),IsF (gv (true&&(b3==true)) (.bool (kd != 1))),IsF (gv (true&&(b3==true)) (.bool (kd != 1))),IsF (gv ((true&&(b3==true))&&(b7==true)) (.pointer (some ⟨L,1,none⟩))),IsF (gv ((true&&(b3==true))&&(b7==true)) (.int .i64 kd)),IsF (gv ((true&&(b3==true))&&(b7==true)) (.bool (kd != 3))),IsF (gv (true&&(b3==true)) (.bool ((kd != 1)&&(kd != 3)))),IsF (gv (true&&(b3==true)) (.bool ((kd != 1)&&(kd != 3)))),IsF (gv ((true&&(b3==true))&&(b12==false)) (.pointer (some ⟨L,2,none⟩))),IsF (gv ((true&&(b3==true))&&(b12==false)) (.int .i64 nn)),IsF (gv ((true&&(b3==true))&&(b12==false)) (.bool (decide (nn<0)))),IsF (gv (true&&(b3==true)) (.bool (((kd != 1)&&(kd != 3))||(decide (nn<0))))),IsF (gv (true&&(b3==true)) (.bool (((kd != 1)&&(kd != 3))||(decide (nn<0))))),IsF (gv ((true&&(b3==true))&&(b17==false)) (.pointer (some ⟨L,1,none⟩))),IsF (gv ((true&&(b3==true))&&(b17==false)) (.int .i64 kd)),IsF (gv ((true&&(b3==true))&&(b17==false)) (.bool (kd==3))),IsF (gv ((true&&(b3==true))&&(b17==false)) (.bool (kd==3))),IsF (gv (((true&&(b3==true))&&(b17==false))&&(b21==true)) (.pointer (some ⟨L,2,none⟩))),IsF (gv (((true&&(b3==true))&&(b17==false))&&(b21==true)) (.int .i64 nn)),IsF (gv (((true&&(b3==true))&&(b17==false))&&(b21==true)) (.bool (decide (1<nn)))),IsF (gv ((true&&(b3==true))&&(b17==false)) (.bool ((kd==3)&&(decide (1<nn))))),IsF (gv (true&&(b3==true)) (.bool ((((kd != 1)&&(kd != 3))||(decide (nn<0)))||((kd==3)&&(decide (1<nn)))))),IsF (.bool ((nn != 0)&&((((kd != 1)&&(kd != 3))||(decide (nn<0)))||((kd==3)&&(decide (1<nn))))))])=F:=⟨_,rfl⟩
   obtain⟨F0,F1,F2,F3,F4,F5,F6,F7,F8,F9,F10,F11,F12,F13,F14,F15,F16,F17,F18,F19,F20,F21,F22,F23,F24,F25,F26,F27,-⟩:=zwZ hFs
   have H3:AllStay StM Fs:=by rw[←hFs];repeat first | exact .nil | refine .cons IsF.stays ?_
   clear hFs
   refine zqZ [] (StI (fun X=>LW W X∧X.heap[L]? =some (.cells #[.int .i64 x.pos,.int .i64 kd,.int .i64 nn,.string ⟨x.s.toArray⟩,.slice At tl ct,.slice An nl cn,.slice Ap k cp] 39 (0,0)))) StM Fs undef (by kernel_rfl) (by kernel_rfl) (by kernel_rfl) (by kernel_rfl) (by kernel_rfl) H3 (n:=28) (by kernel_rfl) (hS1) ?_ ?_
   ·repeat' first | refine OpsOk.cons ?_ ?_ | fail
    ·refine OpOk.val rfl rfl F0 StM.rf fun ρ w r ka E hI K hK=>?_
     have e2:ρ (.tmp 2)=.pointer (some ⟨L,0,none⟩):=E.n 2 (by kernel_rfl)
     obtain⟨x0,x1,x2,x3,x4,x5,x6⟩:=zbZ hI.2
     have lz:=zaZ hI.2
     go_simp
     exact hK
    ·refine OpOk.val rfl rfl F1 StM.rf fun ρ w r ka E hI K hK=>?_
     have e94:=E.e 94 0 (by kernel_rfl) F0
     obtain⟨x0,x1,x2,x3,x4,x5,x6⟩:=zbZ hI.2
     have lz:=zaZ hI.2
     go_simp
     exact hK
    ·refine OpOk.val rfl rfl F2 StM.rf fun ρ w r ka E hI K hK=>?_
     have e95:=E.e 95 1 (by kernel_rfl) F1
     have c:=E.c
     go_simp
     exact hK
    ·refine OpOk.val rfl rfl F3 StM.rf fun ρ w r ka E hI K hK=>?_
     exact znZ (.tmp 96) rfl (show ρ (.tmp 96)=.bool (nn != 0)from E.e 96 2 (by kernel_rfl) F2) hK
    ·exact OpOk.gfld (p:=true) (c:=(nn != 0)) (fun w h=>h.2) rfl (by kernel_rfl) (by kernel_rfl) F3 F4 rfl rfl fun ρ w r ka E=>E.n 2 (by kernel_rfl)
    ·exact OpOk.gld (p:=true) (c:=(nn != 0)) (fun w h=>h.2) rfl (by kernel_rfl) (by kernel_rfl) F3 F5 F4 rfl rfl (by kernel_rfl) rfl
    ·refine OpOk.gval (p:=true) (c:=(nn != 0)) rfl rfl (by kernel_rfl) (by kernel_rfl) F3 F6 StM.rf fun hp ρ w r ka E hI K hK=>?_
     have e99:=(E.e 99 5 (by kernel_rfl) F5).trans (zgZ hp)
     have c:=E.c
     go_simp
     exact hK
    ·refine OpOk.gval (p:=true) (c:=(nn != 0)) rfl rfl (by kernel_rfl) (by kernel_rfl) F3 F7 StM.rf fun hp ρ w r ka E hI K hK=>?_
     exact znZ (.tmp 100) rfl (show ρ (.tmp 100)=.bool (kd != 1)from(E.e 100 6 (by kernel_rfl) F6).trans (zgZ hp)) hK
    ·exact OpOk.gfld (fun w h=>h.2) rfl (by kernel_rfl) (by kernel_rfl) F7 F8 rfl rfl fun ρ w r ka E=>E.n 2 (by kernel_rfl)
    ·exact OpOk.gld (fun w h=>h.2) rfl (by kernel_rfl) (by kernel_rfl) F7 F9 F8 rfl rfl (by kernel_rfl) rfl
    ·refine OpOk.gval rfl rfl (by kernel_rfl) (by kernel_rfl) F7 F10 StM.rf fun hp ρ w r ka E hI K hK=>?_
     have e103:=(E.e 103 9 (by kernel_rfl) F9).trans (zgZ hp)
     have c:=E.c
     go_simp
     exact hK
    ·refine OpOk.gval (p:=true) (c:=(nn != 0)) rfl rfl (by kernel_rfl) (by kernel_rfl) F3 F11 StM.rf fun hp ρ w r ka E hI K hK=>?_
     exact zbkZ rfl E.c (show ρ (.tmp 101)=.bool (kd != 1)from(E.e 101 7 (by kernel_rfl) F7).trans (zgZ hp)) (fun h=>(E.e 104 10 (by kernel_rfl) F10).trans (zgZ (by rw[hp,h];rfl))) hK
    ·refine OpOk.gval (p:=true) (c:=(nn != 0)) rfl rfl (by kernel_rfl) (by kernel_rfl) F3 F12 StM.rf fun hp ρ w r ka E hI K hK=>?_
     exact znZ (.tmp 105) rfl (show ρ (.tmp 105)=.bool ((kd != 1)&&(kd != 3))from(E.e 105 11 (by kernel_rfl) F11).trans (zgZ hp)) hK
    ·exact OpOk.gfld (fun w h=>h.2) rfl (by kernel_rfl) (by kernel_rfl) F12 F13 rfl rfl fun ρ w r ka E=>E.n 2 (by kernel_rfl)
    ·exact OpOk.gld (fun w h=>h.2) rfl (by kernel_rfl) (by kernel_rfl) F12 F14 F13 rfl rfl (by kernel_rfl) rfl
    ·refine OpOk.gval rfl rfl (by kernel_rfl) (by kernel_rfl) F12 F15 StM.rf fun hp ρ w r ka E hI K hK=>?_
     have e108:=(E.e 108 14 (by kernel_rfl) F14).trans (zgZ hp)
     have c:=E.c
     go_simp
     exact hK
    ·refine OpOk.gval (p:=true) (c:=(nn != 0)) rfl rfl (by kernel_rfl) (by kernel_rfl) F3 F16 StM.rf fun hp ρ w r ka E hI K hK=>?_
     exact zbhZ rfl E.c (show ρ (.tmp 106)=.bool ((kd != 1)&&(kd != 3))from(E.e 106 12 (by kernel_rfl) F12).trans (zgZ hp)) (fun h=>(E.e 109 15 (by kernel_rfl) F15).trans (zgZ (by rw[hp,h];rfl))) hK
    ·refine OpOk.gval (p:=true) (c:=(nn != 0)) rfl rfl (by kernel_rfl) (by kernel_rfl) F3 F17 StM.rf fun hp ρ w r ka E hI K hK=>?_
     exact znZ (.tmp 110) rfl (show ρ (.tmp 110)=.bool (((kd != 1)&&(kd != 3))||(decide (nn<0)))from(E.e 110 16 (by kernel_rfl) F16).trans (zgZ hp)) hK
    ·exact OpOk.gfld (fun w h=>h.2) rfl (by kernel_rfl) (by kernel_rfl) F17 F18 rfl rfl fun ρ w r ka E=>E.n 2 (by kernel_rfl)
    ·exact OpOk.gld (fun w h=>h.2) rfl (by kernel_rfl) (by kernel_rfl) F17 F19 F18 rfl rfl (by kernel_rfl) rfl
    ·refine OpOk.gval rfl rfl (by kernel_rfl) (by kernel_rfl) F17 F20 StM.rf fun hp ρ w r ka E hI K hK=>?_
     have e113:=(E.e 113 19 (by kernel_rfl) F19).trans (zgZ hp)
     have c:=E.c
     go_simp
     exact hK
    ·refine OpOk.gval rfl rfl (by kernel_rfl) (by kernel_rfl) F17 F21 StM.rf fun hp ρ w r ka E hI K hK=>?_
     exact znZ (.tmp 114) rfl (show ρ (.tmp 114)=.bool (kd==3)from(E.e 114 20 (by kernel_rfl) F20).trans (zgZ hp)) hK
    ·exact OpOk.gfld (fun w h=>h.2) rfl (by kernel_rfl) (by kernel_rfl) F21 F22 rfl rfl fun ρ w r ka E=>E.n 2 (by kernel_rfl)
    ·exact OpOk.gld (fun w h=>h.2) rfl (by kernel_rfl) (by kernel_rfl) F21 F23 F22 rfl rfl (by kernel_rfl) rfl
    ·refine OpOk.gval rfl rfl (by kernel_rfl) (by kernel_rfl) F21 F24 StM.rf fun hp ρ w r ka E hI K hK=>?_
     have e117:=(E.e 117 23 (by kernel_rfl) F23).trans (zgZ hp)
     have c:=E.c
     go_simp
     exact hK
    ·refine OpOk.gval rfl rfl (by kernel_rfl) (by kernel_rfl) F17 F25 StM.rf fun hp ρ w r ka E hI K hK=>?_
     exact zbkZ rfl E.c (show ρ (.tmp 115)=.bool (kd==3)from(E.e 115 21 (by kernel_rfl) F21).trans (zgZ hp)) (fun h=>(E.e 118 24 (by kernel_rfl) F24).trans (zgZ (by rw[hp,h];rfl))) hK
    ·refine OpOk.gval (p:=true) (c:=(nn != 0)) rfl rfl (by kernel_rfl) (by kernel_rfl) F3 F26 StM.rf fun hp ρ w r ka E hI K hK=>?_
     exact zbhZ rfl E.c (show ρ (.tmp 111)=.bool (((kd != 1)&&(kd != 3))||(decide (nn<0)))from(E.e 111 17 (by kernel_rfl) F17).trans (zgZ hp)) (fun h=>(E.e 119 25 (by kernel_rfl) F25).trans (zgZ (by rw[hp,h];rfl))) hK
    ·refine OpOk.val rfl rfl F27 StM.rf fun ρ w r ka E hI K hK=>?_
     exact zbkZ rfl E.c (show ρ (.tmp 97)=.bool (nn != 0)from E.e 97 3 (by kernel_rfl) F3) (fun h=>(E.e 120 26 (by kernel_rfl) F26).trans (zgZ (by rw[h];rfl))) hK
    ·exact .nil
   ·intro uq wq rq hI hF
    have hSz:=hI
    have f27:uq 27=.bool ((nn != 0)&&((((kd != 1)&&(kd != 3))||(decide (nn<0)))||((kd==3)&&(decide (1<nn))))):=zmZ F27 (hF 27 (by decide))
    simp only[List.toList_toArray,fillAct,Act.put,List.setIfInBounds_toArray,List.set_cons_zero,List.set_cons_succ,f27]
    clear hI hF F0 F1 F2 F3 F4 F5 F6 F7 F8 F9 F10 F11 F12 F13 F14 F15 F16 F17 F18 F19 F20 F21 F22 F23 F24 F25 F26 F27 H3 f27
    rw[Ht.o]
    have He:=zh hSz
    clear hSz Hq hni Hr
    obtain⟨x0,x1,x2,x3,x4,x5,x6⟩:=zbZ He.o.2
    have Hc:=zaZ He.o.2
    cases hN:Sx.okN kd nn with
    | false=>
     have HF:=zh (show Sx.rightX NM (d+1) x=false by rw[Hi.o,Hk.o,HA.o,hN];rfl)
     clear hN
     go_wp2_with fail
     go_ret
     exact⟨by rw[HF.o];rfl,He.o.1⟩
    | true=>
     have Hb:=zh (show Sx.rightX NM (d+1) x=(Sx.rightTs NM 64 x.t&&Sx.rightXs NM (if Sx.flat kd then d+1 else d) d x.parts)by rw[Hi.o,Hk.o,HA.o,hN];simp)
     clear hN x0 x1 x2 x3 x4 x5 x6 Hc
     obtain⟨y0,y1,y2,y3,y4,y5,y6⟩:=zbZ He.o.2
     have Jg:=zaZ He.o.2
     go_wp2_with fail
     clear y0 y1 y2 y3 y4 y5 y6 Jg
     go_loopg [9] tl (fun n v wr=>∃i:Nat,n=tl-i∧v=.int .i64 (i:Nat)∧i≤tl∧(∀(j:Nat) (h:j<x.t.length),j<i→Sx.rightT NM 64 (x.t[j]'h)=true)∧(fun X=>LW W X∧X.heap[L]? =some (.cells #[.int .i64 x.pos,.int .i64 kd,.int .i64 nn,.string ⟨x.s.toArray⟩,.slice At tl ct,.slice An nl cn,.slice Ap k cp] 39 (0,0))) wr)
     case atStart=>exact⟨0,rfl,rfl,Nat.zero_le _,fun j h hj=>by omega,He.o⟩
     case round=>
      obtain⟨i,hn,rfl,hi,hr,hs⟩:=hrel
      have HI:=zh hn
      have HR:=zh hr
      have HS:=zh hs
      have i0:(0:Int)≤(i:Int):=by omega
      have i1:(i:Int)≤1000000:=by omega
      clear hn hr hs
      obtain⟨x0,x1,x2,x3,x4,x5,x6⟩:=zbZ HS.o.2
      have Hc:=zaZ HS.o.2
      by_cases hlt:i<tl
      ·have Hs:(i:Int)<(tl:Int):=by omega
       have H7:i<x.t.length:=by have:=Hu.o;omega
       obtain⟨g,off,An1,cn1,Ae1,ce1,Aq,cq,rfl,hty,hc5⟩:=HT.o.spot i H7
       have H4:=List.getElem_mem H7
       have Hf:=zh (fun(hh:Sx.rightT NM 64 (x.t[i]'H7)=true) j (h:j<x.t.length) (hj:j<i+1)=>(show Sx.rightT NM 64 (x.t[j]'h)=true by
        by_cases hji:j<i
        ·exact HR.o j h hji
        ·obtain rfl:j=i:=by omega
         exact hh))
       have Hg:=zh (fun(hh:Sx.rightT NM 64 (x.t[i]'H7)=false)=>(show Sx.rightTs NM 64 x.t=false by
        cases hq:Sx.rightTs NM 64 x.t with
        | false=>rfl
        | true=>have:=(Sx.rightTs_iff x.t).1 hq i H7;rw[hh]at this;cases this))
       obtain⟨p,hpe⟩:=zE (x.t[i]'H7)
       rw[hpe]at hty hc5 H4 Hf Hg
       have Hl:=zh (fun X (hX:LW W X)=>(zldZ 64 (Nat.le_refl _) p _ X X hX.self (IsTy.below hX.b _ _ hty) (Jh.o p H4)).mono fun e w2 h=>(show e=.returned (.bool (Sx.rightT NM 64 p))∧Below X.heap.size X w2 from⟨h.1,h.2.b⟩))
       obtain⟨hg,c0,c1,c2,c3,c4⟩:=hc5 wr HS.o.1.b
       clear hty hc5 H4 hpe
       go_wp2_with fail
       cases hb:Sx.rightT NM 64 p with
       | false=>
        rw[hb]at Hl
        have HF:=zh (show Sx.rightX NM (d+1) x=false by rw[Hb.o,Hg.o hb];rfl)
        clear hb
        refine(Hl.o wr HS.o.1).mono ?_
        rintro e w5 ⟨rfl,H0⟩
        have H5:=zh (Ha.o _ _ HS.o H0)
        clear H0
        go_wp2_with fail
        go_ret
        exact⟨by rw[HF.o];rfl,H5.o.1⟩
       | true=>
        rw[hb]at Hl
        have Ja:=zh (Hf.o hb)
        clear hb
        refine(Hl.o wr HS.o.1).mono ?_
        rintro e w5 ⟨rfl,H0⟩
        have H5:=zh (Ha.o _ _ HS.o H0)
        clear H0
        go_wp2_with fail
        go_roundg (tl-(i+1))
        case measure=>have:=HI.o;omega
        case rel=>exact⟨i+1,rfl,by simp,hlt,Ja.o,H5.o⟩
      ·have Hs:¬(i:Int)<(tl:Int):=by omega
       have J5:=zh (show Sx.rightTs NM 64 x.t=true from(Sx.rightTs_iff x.t).2 fun j h=>HR.o j h (by have:=Hu.o;omega))
       go_wp2_with fail
       clear x0 x1 x2 x3 x4 x5 x6 Hc
       have Jb:=HS
       have Hd:=zh (fun w=>zpnZ kd w HQ.o.1 HQ.o.2)
       obtain⟨fl,hfl⟩:=zE (Sx.flat kd)
       rw[hfl]at Hb Hd
       clear hfl
       go_loopg [10,11] k (fun n v v11 wz=>∃m:Nat,n=k-m∧v=.int .i64 (m:Nat)∧m≤k∧(∀(j:Nat) (h:j<x.parts.length),j<m→Sx.rightX NM (if j=0 then(if fl then d+1 else d)else d) (x.parts[j]'h)=true)∧(fun X=>LW W X∧X.heap[L]? =some (.cells #[.int .i64 x.pos,.int .i64 kd,.int .i64 nn,.string ⟨x.s.toArray⟩,.slice At tl ct,.slice An nl cn,.slice Ap k cp] 39 (0,0))) wz)
       case atStart=>exact⟨0,rfl,rfl,Nat.zero_le _,fun j h hj=>by omega,Jb.o⟩
       case round=>
        obtain⟨m,hn,rfl,hm,hr,hs⟩:=hrel
        have HM:=zh hn
        have J2:=zh hr
        have H8:=zh hs
        have m0:(0:Int)≤(m:Int):=by omega
        have m1:(m:Int)≤1000000:=by omega
        clear hn hr hs
        obtain⟨x0,x1,x2,x3,x4,x5,x6⟩:=zbZ H8.o.2
        have Hc:=zaZ H8.o.2
        by_cases hlt:m<k
        ·have Hs:(m:Int)<(k:Int):=by omega
         have H7:m<x.parts.length:=by have:=HK.o;omega
         obtain⟨g,off,Atp,ctp,Anp,cnp,App,cpp,rfl,hty,hc5⟩:=HP.o.spot m H7
         have H4:=List.getElem_mem H7
         have Hf:=zh (fun(hh:Sx.rightX NM (if m=0 then(if fl then d+1 else d)else d) (x.parts[m]'H7)=true) j (h:j<x.parts.length) (hj:j<m+1)=>(show Sx.rightX NM (if j=0 then(if fl then d+1 else d)else d) (x.parts[j]'h)=true by
          by_cases hji:j<m
          ·exact J2.o j h hji
          ·obtain rfl:j=m:=by omega
           exact hh))
         have Hg:=zh (fun(hh:Sx.rightX NM (if m=0 then(if fl then d+1 else d)else d) (x.parts[m]'H7)=false)=>(show Sx.rightXs NM (if fl then d+1 else d) d x.parts=false by
          cases hq:Sx.rightXs NM (if fl then d+1 else d) d x.parts with
          | false=>rfl
          | true=>have:=(Sx.rightXs_iff x.parts _ _).1 hq m H7;rw[hh]at this;cases this))
         obtain⟨p,hpe⟩:=zE (x.parts[m]'H7)
         rw[hpe]at hty hc5 H4 Hf Hg
         have Hx:=zh (fun(dd:Nat) (hdd:dd≤64) X (hX:LW W X)=>((Hw.o p H4).2 dd _ X X hdd hX.self (IsEx.below hX.b _ _ hty) (Hw.o p H4).1).mono fun e w2 h=>(show e=.returned (.bool (Sx.rightX NM dd p))∧Below X.heap.size X w2 from⟨h.1,h.2.b⟩))
         obtain⟨hg,c0,c1,c2,c3,c4,c5,c6⟩:=hc5 wr H8.o.1.b
         clear hty hc5 H4 hpe
         have KEY:=zh (show ∀(dd:Nat) (z:Int),(dd=if m=0 then(if fl then d+1 else d)else d)→((dd:Nat):Int)=z→Calls Tryz.prog 33 #[.agg #[.int .i64 p.pos,.int .i64 p.kind,.int .i64 p.n,.string ⟨p.s.toArray⟩,.slice Atp p.t.length ctp,.slice Anp p.names.length cnp,.slice App p.parts.length cpp],.int .i64 z] wr fun e w2=>e=.returned (.bool (Sx.rightX NM dd p))∧Below wr.heap.size wr w2 from fun dd z h1 h2=>by
          rw[←h2]
          exact Hx.o dd (by have:=Je.o;rw[h1];split;split;all_goals omega) wr H8.o.1)
         have H1:=zh (show ∀dd,(dd=if m=0 then(if fl then d+1 else d)else d)→(Sx.rightX NM dd p=true→∀j (h:j<x.parts.length),j<m+1→Sx.rightX NM (if j=0 then(if fl then d+1 else d)else d) (x.parts[j]'h)=true)∧(Sx.rightX NM dd p=false→Sx.rightX NM (d+1) x=false)from fun dd h1=>by
          subst h1
          exact⟨fun h=>Hf.o h,fun h=>by rw[Hb.o,J5.o,Hg.o h];rfl⟩)
         clear Hf Hg Hx
         by_cases hmz:m=0
         ·have Jc:((m:Int)==0)=true:=by subst hmz;rfl
          have Hn:=zh hmz
          clear hmz
          cases fl with
          | true=>
           have HC:=zh (H1.o (d+1) (by simp[Hn.o]))
           have H6:=zh (KEY.o (d+1) (e) (by simp[Hn.o]) J9.o)
           clear H1 KEY
           cases hbb:Sx.rightX NM (d+1) p with
           | true=>
            rw[hbb]at H6
            have H9:=zh (HC.o.1 hbb)
            clear hbb
            go_wp2_with (first | (go_at_call 75;refine(Hd.o wr).mono ?_;rintro e w3 ⟨rfl,rfl⟩) | (go_at_call 33;refine H6.o.mono ?_;rintro e w5 ⟨rfl,H0⟩;have H5:=zh (Ha.o _ _ H8.o H0);clear H0))
            go_roundg (k-(m+1))
            case measure=>have:=HM.o;omega
            case rel=>exact⟨m+1,rfl,by simp,hlt,H9.o,H5.o⟩
           | false=>
            rw[hbb]at H6
            have H9:=zh (HC.o.2 hbb)
            clear hbb
            go_wp2_with (first | (go_at_call 75;refine(Hd.o wr).mono ?_;rintro e w3 ⟨rfl,rfl⟩) | (go_at_call 33;refine H6.o.mono ?_;rintro e w5 ⟨rfl,H0⟩;have H5:=zh (Ha.o _ _ H8.o H0);clear H0))
            go_ret
            exact⟨by rw[H9.o];rfl,H5.o.1⟩
          | false=>
           have HC:=zh (H1.o (d) (by simp[Hn.o]))
           have H6:=zh (KEY.o (d) (e-1) (by simp[Hn.o]) Hy.o.symm)
           clear H1 KEY
           cases hbb:Sx.rightX NM (d) p with
           | true=>
            rw[hbb]at H6
            have H9:=zh (HC.o.1 hbb)
            clear hbb
            go_wp2_with (first | (go_at_call 75;refine(Hd.o wr).mono ?_;rintro e w3 ⟨rfl,rfl⟩) | (go_at_call 33;refine H6.o.mono ?_;rintro e w5 ⟨rfl,H0⟩;have H5:=zh (Ha.o _ _ H8.o H0);clear H0))
            go_roundg (k-(m+1))
            case measure=>have:=HM.o;omega
            case rel=>exact⟨m+1,rfl,by simp,hlt,H9.o,H5.o⟩
           | false=>
            rw[hbb]at H6
            have H9:=zh (HC.o.2 hbb)
            clear hbb
            go_wp2_with (first | (go_at_call 75;refine(Hd.o wr).mono ?_;rintro e w3 ⟨rfl,rfl⟩) | (go_at_call 33;refine H6.o.mono ?_;rintro e w5 ⟨rfl,H0⟩;have H5:=zh (Ha.o _ _ H8.o H0);clear H0))
            go_ret
            exact⟨by rw[H9.o];rfl,H5.o.1⟩
         ·have Jc:((m:Int)==0)=false:=by rw[beq_eq_false_iff_ne];omega
          have HC:=zh (H1.o (d) (by simp[hmz]))
          have H6:=zh (KEY.o (d) (e-1) (by simp[hmz]) Hy.o.symm)
          clear H1 KEY
          cases hbb:Sx.rightX NM (d) p with
          | true=>
           rw[hbb]at H6
           have H9:=zh (HC.o.1 hbb)
           clear hbb
           go_wp2_with (first | (go_at_call 75;refine(Hd.o wr).mono ?_;rintro e w3 ⟨rfl,rfl⟩) | (go_at_call 33;refine H6.o.mono ?_;rintro e w5 ⟨rfl,H0⟩;have H5:=zh (Ha.o _ _ H8.o H0);clear H0))
           go_roundg (k-(m+1))
           case measure=>have:=HM.o;omega
           case rel=>exact⟨m+1,rfl,by simp,hlt,H9.o,H5.o⟩
          | false=>
           rw[hbb]at H6
           have H9:=zh (HC.o.2 hbb)
           clear hbb
           go_wp2_with (first | (go_at_call 75;refine(Hd.o wr).mono ?_;rintro e w3 ⟨rfl,rfl⟩) | (go_at_call 33;refine H6.o.mono ?_;rintro e w5 ⟨rfl,H0⟩;have H5:=zh (Ha.o _ _ H8.o H0);clear H0))
           go_ret
           exact⟨by rw[H9.o];rfl,H5.o.1⟩
        ·have Hs:¬(m:Int)<(k:Int):=by omega
         have HF:=zh (show Sx.rightX NM (d+1) x=true by
          rw[Hb.o,J5.o,(Sx.rightXs_iff x.parts _ _).2 fun j h=>J2.o j h (by have:=HK.o;omega)]
          rfl)
         go_wp2_with fail
         go_ret
         exact⟨by rw[HF.o];rfl,H8.o.1⟩
theorem zivZ:∀(n:Nat) (x:Sx.Ex),Sx.sizeX x≤n→RefXOk x
 | 0,x,h=>by have:=Sx.sizeX_pos x;omega
 | n+1,x,h=>zntZ x fun p hp=>zivZ n p (by
   have:=Sx.sizeX_mem hp
   have:=Sx.sizeX_parts x
   omega)
end Go.Proofs.YtdncljdfmdgdaaaGreatDoor
