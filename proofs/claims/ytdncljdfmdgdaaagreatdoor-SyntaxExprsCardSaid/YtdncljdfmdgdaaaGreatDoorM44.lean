/-
  The walk of coilkeep.SizeExpr.
-/
import Derived.Test.YtdncljdfmdgdaaaGreatDoorM1
import Derived.Test.YtdncljdfmdgdaaaGreatDoorM34
import Derived.Test.YtdncljdfmdgdaaaGreatDoorM28
import Derived.Test.YtdncljdfmdgdaaaGreatDoorM21
import Derived.Test.YtdncljdfmdgdaaaGreatDoorM24
import Derived.Test.YtdncljdfmdgdaaaGreatDoorM7
import Derived.Test.YtdncljdfmdgdaaaGreatDoorM15
set_option linter.unusedSimpArgs false
set_option linter.unusedVariables false
set_option maxRecDepth 100000
set_option maxHeartbeats 8000000
namespace Go.Proofs.YtdncljdfmdgdaaaGreatDoor
open Go.RowKit Go.Shelf
theorem zqhZ:∀(n:Nat) (t:Sx.Ex),Sx.sizeX t≤n→Sx.fitsX t→∀(most:Nat) (v:Value) (W:World),1≤most→most≤1000000→IsEx W v t→
  Calls Tryz.prog 31 #[v,.int .i64 (most:Nat)] W (SizeIs most (Sx.sizeX t) W):=by
 intro n
 induction n with
 | zero=>intro t h;have:=Sx.sizeX_pos t;omega
 | succ n ih=>
  intro t hn hf most v W J9 Ja ht
  obtain⟨f1,f2,f3,f4,f5,f6,f7⟩:=Sx.fitsX_parts hf
  obtain⟨At,ct,An,cn,Ap,cp,rfl,htt,hnm,hp,-⟩:=ht.agg
  have Hp:=Sx.sizeX_parts t
  obtain⟨nl,hnl⟩:=zE (t.names.length)
  obtain⟨tl,htl⟩:=zE (t.t.length)
  obtain⟨k,hk⟩:=zE (t.parts.length)
  obtain⟨ll,hll⟩:=zE (t.s.length)
  rw[hnl,hll]at Hp
  rw[hnl]at f2 hnm
  rw[htl]at f4 htt
  rw[hk]at f6 hp
  rw[hll]at f1
  rw[hnl,htl,hk]
  have i1a:(0:Int)≤(ll:Int):=by omega
  have i1b:(ll:Int)≤140737488351232:=by omega
  have i2a:(0:Int)≤(nl:Int):=by omega
  have i2b:(nl:Int)≤140737488351232:=by omega
  have i3a:(0:Int)≤(tl:Int):=by omega
  have i3b:(tl:Int)≤140737488351232:=by omega
  have i4a:(0:Int)≤(k:Int):=by omega
  have i4b:(k:Int)≤140737488351232:=by omega
  have i5a:(1:Int)≤(most:Int):=by omega
  have i5b:(most:Int)≤1000000:=by omega
  have J5:(⟨t.s.toArray⟩:ByteArray).size=ll:=by simp[ByteArray.size,hll]
  have J0:=zh ih
  have Hr:=zh Hp
  have HN:=zh hn
  have J4:=zh hnm
  have HP:=zh hp
  have J7:=zh htt
  have Hx:=zh f3
  have Hz:=zh f5
  have J3:=zh f7
  have Hs:=zh hnl
  have Ht:=zh htl
  have HK:=zh hk
  have J1:=zh (show ∀p∈t.t,Sx.size p≤Sx.sizeL t.t from fun p hp=>Sx.size_mem hp)
  obtain⟨L,hL⟩:=zE (W.heap.size)
  obtain⟨w2,hw2⟩:=zE (W.alloc (.cells #[.int .i64 t.pos,.int .i64 t.kind,.int .i64 t.n,.string ⟨t.s.toArray⟩,.slice At tl ct,.slice An nl cn,.slice Ap k cp] 39))
  have H4:w2.heap[L]? =some (.cells #[.int .i64 t.pos,.int .i64 t.kind,.int .i64 t.n,.string ⟨t.s.toArray⟩,.slice At tl ct,.slice An nl cn,.slice Ap k cp] 39 (0,0)):=by rw[←hw2,←hL];exact heap_alloc_new W _
  have Hu:Below L W w2:=by rw[←hw2,←hL];exact zeZ (World.grownBy_alloc W _ none)
  obtain⟨x0,x1,x2,x3,x4,x5,x6⟩:=zbZ H4
  have Jb:=zaZ H4
  have H5:=zh H4
  have Hl:=zh Hu
  have HL:=zh hL
  clear ih Hp hn hnm htt hp f3 f5 f7 hnl htl hk hll ht hf H4 Hu
  go_enter Tryz.func31, Tryz.ntmps31
  go_upto_block 0 with(fail)
  obtain⟨bs,hbs⟩:∃b:Int,1+(ll:Int)+(nl:Int)=b:=⟨_,rfl⟩
  have J2:=zh hbs
  rw[hbs]
  clear hbs
  go_cut [5] (fun v wx=>wx=w2∧∃r:Nat,v=.int .i64 (r:Nat)∧r≤most+500000000000000∧(r<most→r=1+ll+nl+(t.names.map List.length).sum))
  case first=>
   go_wp2_with fail
   go_loopg [5,6] nl (fun i v u wr=>∃(m r:Nat),i=nl-m∧v=.int .i64 (r:Nat)∧u=.int .i64 (m:Nat)∧m≤nl∧r≤most+500000000000000∧(r<most→r=1+ll+nl+((t.names.take m).map List.length).sum)∧wr=w2)
   case atStart=>exact⟨0,1+ll+nl,rfl,by have:=J2.o;congr 1;omega,rfl,Nat.zero_le _,by omega,by simp,rfl⟩
   case round=>
    obtain⟨m,r,hi,rfl,rfl,hm,hr1,hr2,rfl⟩:=hrel
    have HI:=zh hi
    have H8:=zh hr2
    have m0:(0:Int)≤(m:Int):=by omega
    have r0:(0:Int)≤(r:Int):=by omega
    have r1:(r:Int)≤500000001000000:=by omega
    clear hi hr2
    by_cases hlt:m<nl
    ·have Hd:(m:Int)<(nl:Int):=by omega
     by_cases hrm:r<most
     ·have H9:(r:Int)<(most:Int):=by omega
      have Hk:m<t.names.length:=by have:=Hs.o;omega
      obtain⟨g1,off1,rfl,hsp1⟩:=J4.o.spot m Hk
      obtain⟨hg1,q1⟩:=hsp1 wr (by rw[HL.o];exact Hl.o)
      have H1:=Sx.sum_take Hk
      have Hv:=Hx.o _ (List.getElem_mem Hk)
      obtain⟨s,hse⟩:=zE (t.names[m]'Hk)
      rw[hse]at q1 H1 Hv
      obtain⟨sl,hsl⟩:=zE (s.length)
      have J8:(⟨s.toArray⟩:ByteArray).size=sl:=by simp[ByteArray.size,hsl]
      rw[hsl]at H1 Hv
      have s0:(0:Int)≤(sl:Int):=by omega
      have s1:(sl:Int)≤140737488351232:=by omega
      have Hc:=zh H1
      have J6:=zh (H8.o hrm)
      clear H1 hse hsl hsp1
      go_wp2_with fail
      go_roundg (nl-(m+1))
      case measure=>have:=HI.o;omega
      case rel=>exact⟨m+1,r+sl,rfl,by simp,by simp,hlt,by omega,fun _=>by rw[Hc.o,J6.o];omega,rfl⟩
     ·have H9:decide ((r:Int)<(most:Int))=false:=by rw[decide_eq_false_iff_not];omega
      have Ha:¬(r:Int)<(most:Int):=by omega
      go_wp2_with fail
      go_meet
      exact⟨rfl,r,rfl,hr1,fun h=>absurd h hrm⟩
    ·have Hd:decide ((m:Int)<(nl:Int))=false:=by rw[decide_eq_false_iff_not];omega
     have He:¬(m:Int)<(nl:Int):=by omega
     have H0:=List.take_of_length_le (show t.names.length≤m by have:=Hs.o;omega)
     have Hb:=zh H0
     clear H0
     go_wp2_with fail
     go_meet
     exact⟨rfl,r,rfl,hr1,fun h=>by rw[H8.o h,Hb.o]⟩
  case rest=>
   obtain⟨rfl,r,rfl,hr1,hr2⟩:=hcut
   have H8:=zh hr2
   have r0:(0:Int)≤(r:Int):=by omega
   have r1:(r:Int)≤500000001000000:=by omega
   clear hr2
   go_upto_block 2 with(fail)
   go_cut [5] (fun v wx=>∃r:Nat,v=.int .i64 (r:Nat)∧r≤most+500000000000000∧(r<most→r=1+ll+nl+(t.names.map List.length).sum+Sx.sizeL t.t)∧Below L W wx∧wx.heap[L]? =wc.heap[L]?)
   case first=>
    go_wp2_with fail
    clear x0 x1 x2 x3 x4 x5 x6
    go_loopg [5,7] tl (fun i v u wr=>∃(m r:Nat),i=tl-m∧v=.int .i64 (r:Nat)∧u=.int .i64 (m:Nat)∧m≤tl∧r≤most+500000000000000∧(r<most→r=1+ll+nl+(t.names.map List.length).sum+Sx.sizeL (t.t.take m))∧Below L W wr∧wr.heap[L]? =wc.heap[L]?)
    case atStart=>exact⟨0,r,rfl,rfl,rfl,Nat.zero_le _,hr1,by have:=H8.o;simpa[Sx.sizeL]using this,Hl.o,rfl⟩
    case round=>
     obtain⟨m,q,hi,rfl,rfl,hm,hq1,hq2,hwr,hbr⟩:=hrel
     rw[H5.o]at hbr
     obtain⟨x0,x1,x2,x3,x4,x5,x6⟩:=zbZ hbr
     have Ho:=zaZ hbr
     have hLs:L≤wr.heap.size:=by omega
     have HI:=zh hi
     have Hj:=zh hq2
     have H3:=zh hwr
     have Hg:=zh hbr
     have m0:(0:Int)≤(m:Int):=by omega
     have q0:(0:Int)≤(q:Int):=by omega
     have q1:(q:Int)≤500000001000000:=by omega
     clear hi hq2 hwr hbr
     by_cases hlt:m<tl
     ·have Hd:(m:Int)<(tl:Int):=by omega
      by_cases hrm:q<most
      ·have H9:(q:Int)<(most:Int):=by omega
       have H2:m<t.t.length:=by have:=Ht.o;omega
       obtain⟨g,off,An1,cn1,Ae1,ce1,Aq,cq,rfl,hty,hc5⟩:=J7.o.spot m H2
       rw[HL.o]at hc5
       obtain⟨hg,c0,c1,c2,c3,c4⟩:=hc5 wr H3.o
       have H1:=Sx.size_take H2
       have H7:=Hz.o _ (List.getElem_mem H2)
       have Hi:=Sx.size_mem (List.getElem_mem H2)
       obtain⟨p,hpe⟩:=zE (t.t[m]'H2)
       rw[hpe]at c0 c1 c2 c3 c4 hty H1 H7 Hi
       obtain⟨d,hd⟩:∃d:Int,(most:Int)-(q:Int)=d:=⟨_,rfl⟩
       have d0:1≤d:=by omega
       have d1:d≤1000000:=by omega
       have H6:=zrgZ _ p (Nat.le_refl _) H7 (most-q) _ wr (by omega) (by omega) (IsTy.below (by rw[HL.o];exact H3.o) _ _ hty)
       rw[show((most-q:Nat):Int)=d by omega]at H6
       have Hn:=zh H6
       have Hc:=zh H1
       have Hm:=zh (Hj.o hrm)
       clear H6 H1 H7 Hi hpe hty hc5
       go_wp2_with fail
       refine Hn.o.mono ?_
       rintro e w5 ⟨z,rfl,Hw,Hf,Hh⟩
       have z0:(0:Int)≤(z:Int):=by omega
       have Hy:z+q≤most+500000000000000:=by omega
       have z1:(z:Int)≤500000001000000:=by omega
       have z2:(q:Int)+(z:Int)≤500000001000000:=by omega
       have Hq:=zh Hf
       clear Hf
       go_wp2_with fail
       go_roundg (tl-(m+1))
       case measure=>have:=HI.o;omega
       case rel=>
        refine⟨m+1,q+z,rfl,by simp,by simp,hlt,by omega,fun hlz=>?_,H3.o.trans (Hh.mono hLs),?_⟩
        ·rw[Hc.o,Hq.o (by omega),Hm.o];omega
        ·rw[H5.o,Hh.block L Ho,Hg.o]
      ·have H9:decide ((q:Int)<(most:Int))=false:=by rw[decide_eq_false_iff_not];omega
       have Ha:¬(q:Int)<(most:Int):=by omega
       go_wp2_with fail
       go_meet
       exact⟨q,rfl,hq1,fun h=>absurd h hrm,H3.o,by rw[H5.o,Hg.o]⟩
     ·have Hd:decide ((m:Int)<(tl:Int))=false:=by rw[decide_eq_false_iff_not];omega
      have He:¬(m:Int)<(tl:Int):=by omega
      have H0:=List.take_of_length_le (show t.t.length≤m by have:=Ht.o;omega)
      have Hb:=zh H0
      clear H0
      go_wp2_with fail
      go_meet
      exact⟨q,rfl,hq1,fun h=>by rw[Hj.o h,Hb.o],H3.o,by rw[H5.o,Hg.o]⟩
   case rest=>
    rename_i wd
    obtain⟨r,rfl,hr1,hr2,hwr,hbr⟩:=hcut
    rw[H5.o]at hbr
    have H8:=zh hr2
    have r0:(0:Int)≤(r:Int):=by omega
    have r1:(r:Int)≤500000001000000:=by omega
    have H5:=zh hbr
    have Hl:=zh hwr
    clear hr2 x0 x1 x2 x3 x4 x5 x6
    go_wp2_with fail
    go_loopg [5,8] k (fun i v u wr=>∃(m r:Nat),i=k-m∧v=.int .i64 (r:Nat)∧u=.int .i64 (m:Nat)∧m≤k∧r≤most+500000000000000∧(r<most→r=1+ll+nl+(t.names.map List.length).sum+Sx.sizeL t.t+Sx.sizeXs (t.parts.take m))∧Below L W wr∧wr.heap[L]? =wc.heap[L]?)
    case atStart=>exact⟨0,r,rfl,rfl,rfl,Nat.zero_le _,hr1,by have:=H8.o;simpa[Sx.sizeXs]using this,Hl.o,rfl⟩
    case round=>
     obtain⟨m,q,hi,rfl,rfl,hm,hq1,hq2,hwr,hbr⟩:=hrel
     rw[H5.o]at hbr
     obtain⟨x0,x1,x2,x3,x4,x5,x6⟩:=zbZ hbr
     have Ho:=zaZ hbr
     have hLs:L≤wr.heap.size:=by omega
     have HI:=zh hi
     have Hj:=zh hq2
     have H3:=zh hwr
     have Hg:=zh hbr
     have m0:(0:Int)≤(m:Int):=by omega
     have q0:(0:Int)≤(q:Int):=by omega
     have q1:(q:Int)≤500000001000000:=by omega
     clear hi hq2 hwr hbr
     by_cases hlt:m<k
     ·have Hd:(m:Int)<(k:Int):=by omega
      by_cases hrm:q<most
      ·have H9:(q:Int)<(most:Int):=by omega
       have H2:m<t.parts.length:=by have:=HK.o;omega
       obtain⟨g,off,A9,c9,A8,c8,Aq,cq,rfl,hty,hc5⟩:=HP.o.spot m H2
       rw[HL.o]at hc5
       obtain⟨hg,c0,c1,c2,c3,c4,c5,c6⟩:=hc5 wr H3.o
       have H1:=Sx.sizeX_take H2
       have H7:=J3.o _ (List.getElem_mem H2)
       have Hi:=Sx.sizeX_mem (List.getElem_mem H2)
       obtain⟨p,hpe⟩:=zE (t.parts[m]'H2)
       rw[hpe]at c0 c1 c2 c3 c4 c5 c6 hty H1 H7 Hi
       obtain⟨d,hd⟩:∃d:Int,(most:Int)-(q:Int)=d:=⟨_,rfl⟩
       have d0:1≤d:=by omega
       have d1:d≤1000000:=by omega
       have H6:=J0.o p (by have:=HN.o;have:=Hr.o;omega) H7 (most-q) _ wr (by omega) (by omega) (IsEx.below (by rw[HL.o];exact H3.o) _ _ hty)
       rw[show((most-q:Nat):Int)=d by omega]at H6
       have Hn:=zh H6
       have Hc:=zh H1
       have Hm:=zh (Hj.o hrm)
       clear H6 H1 H7 Hi hpe hty hc5
       go_wp2_with fail
       refine Hn.o.mono ?_
       rintro e w5 ⟨z,rfl,Hw,Hf,Hh⟩
       have z0:(0:Int)≤(z:Int):=by omega
       have Hy:z+q≤most+500000000000000:=by omega
       have z1:(z:Int)≤500000001000000:=by omega
       have z2:(q:Int)+(z:Int)≤500000001000000:=by omega
       have Hq:=zh Hf
       clear Hf
       go_wp2_with fail
       go_roundg (k-(m+1))
       case measure=>have:=HI.o;omega
       case rel=>
        refine⟨m+1,q+z,rfl,by simp,by simp,hlt,by omega,fun hlz=>?_,H3.o.trans (Hh.mono hLs),?_⟩
        ·rw[Hc.o,Hq.o (by omega),Hm.o];omega
        ·rw[H5.o,Hh.block L Ho,Hg.o]
      ·have H9:decide ((q:Int)<(most:Int))=false:=by rw[decide_eq_false_iff_not];omega
       have Ha:¬(q:Int)<(most:Int):=by omega
       go_wp2_with fail
       go_ret
       exact⟨q,rfl,hq1,fun h=>absurd h hrm,by rw[HL.o];exact H3.o⟩
     ·have Hd:decide ((m:Int)<(k:Int))=false:=by rw[decide_eq_false_iff_not];omega
      have He:¬(m:Int)<(k:Int):=by omega
      have H0:=List.take_of_length_le (show t.parts.length≤m by have:=HK.o;omega)
      have Hb:=zh H0
      clear H0
      go_wp2_with fail
      go_ret
      refine⟨q,rfl,hq1,fun h=>?_,by rw[HL.o];exact H3.o⟩
      have:=Hj.o h
      rw[Hb.o]at this
      rw[this,Hr.o]
end Go.Proofs.YtdncljdfmdgdaaaGreatDoor
namespace Go.Proofs.YtdncljdfmdgdaaaGreatDoor
open Go.Proofs.YtdncljdfmdgdaaaGreatDoor.Lx (Bytes)
namespace Sx
theorem zqiZ {n:Int} (h0:0≤n) (h1:n≤9223372036854775807):Lk (SY.digits n):=by
 show(Lib.decDigits n.toNat).length≤100000
 rw[Lib.decDigits_length]
 have:=nD_le 19 n.toNat (by omega)
 omega
theorem zsuZ {s:Bytes} (h:s.length≤20000):Lk (SY.quote s):=by
 have:=Lx.quote_len s
 show(Lx.quote s).length≤100000
 omega
theorem zlfZ {l:List Ty} {d:Nat} (h:rightTs NM d l=true):Lks (typL l):=by
 cases l with
 | nil=>rw[typL];exact Lks.nil
 | cons t l=>
  rw[rightTs,Bool.and_eq_true]at h
  rw[typL]
  exact zuiZ h.1
theorem zuvZ (k:Int):Lk (sign k):=by
 unfold sign
 split
 ·exact zpgZ
 split
 ·exact zvsZ
 split
 ·exact zmkZ
 split
 ·exact lkEq
 split
 ·exact zvrZ
 split
 ·exact lkAnd
 ·exact lkOr
theorem zckZ {l:List Ex} (n:Nat) (h:∀x∈l,Lks (expr SY x)):Lks (first SY n l):=by
 cases l with
 | nil=>rw[first];exact Lks.nil
 | cons x l=>
  rw[first]
  exact Lks.ite (fun _=>((Lks.cons zegZ Lks.nil).app (h x List.mem_cons_self)).app (Lks.cons lkEnd Lks.nil)) (fun _=>h x List.mem_cons_self)
theorem znuZ {l:List Ex} (n:Nat) (h:∀x∈l,Lks (expr SY x)):Lks (second SY n l):=by
 cases l with
 | nil=>rw[second];exact Lks.nil
 | cons x l=>rw[second];exact zckZ n fun y hy=>h y (List.mem_cons_of_mem _ hy)
theorem zlxZ {l:List Ex} (h:∀x∈l,Lks (expr SY x)):Lks (applied SY l):=by
 cases l with
 | nil=>rw[applied];exact Lks.nil
 | cons x l=>
  rw[applied]
  exact Lks.ite (fun _=>((Lks.cons zegZ Lks.nil).app (h x List.mem_cons_self)).app (Lks.cons lkEnd Lks.nil)) (fun _=>h x List.mem_cons_self)
theorem ziwZ:∀ {l:List Ex} {i:Nat},(∀x∈l,Lks (expr SY x))→Lks (list SY i l)
 | [],i,h=>by rw[list];exact Lks.nil
 | x::l,i,h=>by
  rw[list]
  exact((Lks.ite (fun _=>Lks.cons zibZ Lks.nil) (fun _=>Lks.nil)).app (h x List.mem_cons_self)).app (ziwZ fun y hy=>h y (List.mem_cons_of_mem _ hy))
theorem zlgZ {l:List Ex} (h:∀x∈l,Lks (expr SY x)):Lks (args SY l):=by
 cases l with
 | nil=>rw[args];exact Lks.nil
 | cons x l=>
  rw[args]
  exact((Lks.cons zegZ Lks.nil).app (ziwZ fun y hy=>h y (List.mem_cons_of_mem _ hy))).app (Lks.cons lkEnd Lks.nil)
theorem zhtZ:∀ {ns:List Bytes} {l:List Ex} {i:Nat},(∀n∈ns,Lk n)→(∀x∈l,Lks (expr SY x))→Lks (record SY i ns l)
 | [],l,i,hn,h=>by rw[record];exact Lks.nil;simp
 | n::ns,[],i,hn,h=>by rw[record];exact Lks.nil;simp
 | n::ns,x::l,i,hn,h=>by
  rw[record]
  exact(((Lks.ite (fun _=>Lks.cons zibZ Lks.nil) (fun _=>Lks.nil)).app (Lks.cons (hn n List.mem_cons_self) (Lks.cons zueZ Lks.nil))).app (h x List.mem_cons_self)).app
   (zhtZ (fun m hm=>hn m (List.mem_cons_of_mem _ hm)) (fun y hy=>h y (List.mem_cons_of_mem _ hy)))
theorem zsvZ:∀(n:Nat) (x:Ex),sizeX x≤n→sizeX x≤20000→okX x→numX x→Lks (expr SY x):=by
 intro n
 induction n with
 | zero=>intro x h;have:=sizeX_pos x;omega
 | succ n ih=>
  intro x hn H3 H2 H1
  obtain⟨hs,hp⟩:=H2.shape
  obtain⟨hxn,hnp⟩:=numX_parts H1
  have H0:∀p∈x.parts,Lks (expr SY p):=fun p hm=>ih p (by have:=sizeX_mem hm;have:=sizeX_parts x;omega) (by have:=sizeX_mem hm;have:=sizeX_parts x;omega) (hp p hm) (hnp p hm)
  unfold shapeX at hs
  simp only[Bool.and_eq_true]at hs
  obtain⟨h1,h2,h3,h4,h5⟩:=hs
  have H4:1≤x.kind∧x.kind≤21:=by simpa using h1
  rw[expr_eq]
  refine Lks.ite (fun e=>?_) fun e1=>Lks.ite (fun e=>?_) fun e2=>Lks.ite (fun e=>?_) fun e3=>Lks.ite (fun e=>?_) fun e4=>Lks.ite (fun e=>Lks.cons zvuZ Lks.nil) fun e5=>Lks.ite (fun e=>?_) fun e6=>
   Lks.ite (fun e=>?_) fun e7=>Lks.ite (fun e=>?_) fun e9=>Lks.ite (fun e=>?_) fun e10=>Lks.ite (fun e=>?_) fun e11=>Lks.ite (fun e=>?_) fun e12=>Lks.ite (fun e=>?_) fun e13=>?_
  ·have h0:0≤x.n:=by
    simp only[Bool.or_eq_true,decide_eq_true_eq]at h3
    omega
   exact Lks.cons (zqiZ h0 hxn) Lks.nil
  ·rw[if_pos e]at h2
   exact Lks.cons (zsuZ (by have:=textX_len x;omega)) Lks.nil
  ·refine Lks.cons ?_ Lks.nil
   split
   ·exact zvtZ
   ·exact zuhZ
  ·rw[if_neg e2,if_pos (.inl e)]at h2
   exact Lks.cons (zcqZ h2) Lks.nil
  ·rw[if_pos (.inl e),Bool.and_eq_true]at h4
   exact Lks.cons lkNil (zlfZ h4.2)
  ·rw[if_neg e2,if_neg (by omega),if_pos e]at h2
   rw[if_pos e,Bool.and_eq_true]at h5
   exact(((Lks.ite (fun _=>Lks.cons lkNew Lks.nil) (fun _=>Lks.nil)).app (Lks.cons (zksZ h2) (Lks.cons zktZ Lks.nil))).app (zhtZ (fun m hm=>zcqZ (apart_small h5.2 m hm)) H0)).app (Lks.cons zkuZ Lks.nil)
  ·rw[if_neg e2,if_pos (by omega)]at h2
   exact(zckZ 7 H0).app (Lks.cons lkDot (Lks.cons (zcqZ h2) Lks.nil))
  ·rw[if_neg e2,if_pos (by omega)]at h2
   exact((zckZ 7 H0).app (Lks.cons lkDot (Lks.cons (zcqZ h2) Lks.nil))).app (zlgZ H0)
  ·exact(zlxZ H0).app (zlgZ H0)
  ·rw[if_pos (.inr e),Bool.and_eq_true]at h4
   exact((zckZ 7 H0).app (Lks.cons lkTo Lks.nil)).app (zlfZ h4.2)
  ·refine Lks.cons ?_ (zckZ 6 H0)
   split
   ·exact zmkZ
   ·exact lkNot
  ·exact((zckZ _ H0).app (Lks.cons (zuvZ _) Lks.nil)).app (znuZ _ H0)
theorem lks_ex {x:Ex} (hz:sizeX x≤20000) (h:okX x) (hn:numX x):Lks (expr SY x):=zsvZ _ x (Nat.le_refl _) hz h hn
end Sx
end Go.Proofs.YtdncljdfmdgdaaaGreatDoor
namespace Go.Proofs.YtdncljdfmdgdaaaGreatDoor
open Go.ChangeShapes Go.WideShapes Go.ChangeAt Go.RowKit
theorem znvZ {l:List Value} (h:l.length=7):∃a b c d e f g,l=[a,b,c,d,e,f,g]:=by
 match l,h with
 | [a,b,c,d,e,f,g],_=>exact⟨a,b,c,d,e,f,g,rfl⟩
theorem uEx : Tryz.prog.underlying 39 =some (.struct (Tryz.prog.fieldsOf 39)):=by kernel_rfl
theorem cEx : Tryz.prog.cellsOf 39 =7:=by kernel_rfl
theorem bEx:1≤ Tryz.prog.bytesOf 39 :=of_decide_eq_true (by kernel_rfl)
theorem cSlEx : Tryz.prog.cellsOf 37 =1:=by kernel_rfl
theorem uSlEx : Tryz.prog.underlying 37 =some (.slice 39):=by kernel_rfl
theorem fEx0:(Tryz.prog.fieldsOf 39)[0]?.map (fun f=>(f.type,f.offset))=some (36,0):=by kernel_rfl
theorem fEx1:(Tryz.prog.fieldsOf 39)[1]?.map (fun f=>(f.type,f.offset))=some (3,1):=by kernel_rfl
theorem fEx2:(Tryz.prog.fieldsOf 39)[2]?.map (fun f=>(f.type,f.offset))=some (3,2):=by kernel_rfl
theorem fEx3:(Tryz.prog.fieldsOf 39)[3]?.map (fun f=>(f.type,f.offset))=some (9,3):=by kernel_rfl
theorem fEx4:(Tryz.prog.fieldsOf 39)[4]?.map (fun f=>(f.type,f.offset))=some (24,4):=by kernel_rfl
theorem fEx5:(Tryz.prog.fieldsOf 39)[5]?.map (fun f=>(f.type,f.offset))=some (22,5):=by kernel_rfl
theorem fEx6:(Tryz.prog.fieldsOf 39)[6]?.map (fun f=>(f.type,f.offset))=some (37,6):=by kernel_rfl
section
variable {H:Type} {enc:TypeId×Value→H} {W:World} {sp:Nat→Bool} {held:Bool}
theorem zjlZ {fuel:Nat} {v:Value} {x:DataW H×List MemPlace} (h:DataW.trod enc Tryz.prog W 0 sp held fuel 36 [v]=some x) (hf:Fit Tryz.prog 36 x.1):∃k:Int,v=.int .i64 k:=by
 obtain⟨n0,y0,l0,h0,q0⟩:=zyZ 0 uP fP0 h hf
 rw[cI]at h0
 simp only[List.drop_zero,List.take_succ_cons,List.take_zero]at h0
 obtain⟨k,e0,_,_⟩:=DataW.trod_int Tryz.underlying3 h0
 injection e0 with e0
 exact⟨k,e0⟩
theorem zjmZ {fuel:Nat} {v:Value} {x:DataW H×List MemPlace} (h:DataW.trod enc Tryz.prog W 0 sp held fuel 24 [v]=some x) (hf:Fit Tryz.prog 24 x.1) :
  ∃l,TyRow W v l∧l.length≤reachBytes∧Sx.fitsL l:=zgeZ (fun n _=>zneZ n) h hf
def ExRead (W:World) (cs:List Value):Prop:=∃v0 v1 v2 v3 v4 v5 v6 t,cs=[v0,v1,v2,v3,v4,v5,v6]∧IsEx W (.agg #[v0,v1,v2,v3,v4,v5,v6]) t∧Sx.fitsX t
theorem zlyZ {fuel:Nat} (ih:∀n,n<fuel→∀(cs:List Value) (x:DataW H×List MemPlace),DataW.trod enc Tryz.prog W 0 sp held n 39 cs=some x→Fit Tryz.prog 39 x.1→ExRead W cs)
  {v:Value} {x:DataW H×List MemPlace} (h:DataW.trod enc Tryz.prog W 0 sp held fuel 37 [v]=some x) (hf:Fit Tryz.prog 37 x.1) :
  ∃l,ExRow W v l∧l.length≤reachBytes∧Sx.fitsXs l:=by
 obtain⟨a,len,cap,rfl,hlc,hlr,hi⟩:=zenZ uSlEx cEx (by decide) bEx h hf
 have H1:∀i,i<len→∃t:Sx.Ex,(∃g off v0 v1 v2 v3 v4 v5 v6,a=some ⟨g,off,none⟩∧W.cell? ⟨g,off+(0+i) * 7,none⟩=some v0∧W.cell? ⟨g,off+(0+i) * 7+1,none⟩=some v1∧W.cell? ⟨g,off+(0+i) * 7+2,none⟩=some v2∧W.cell? ⟨g,off+(0+i) * 7+3,none⟩=some v3∧W.cell? ⟨g,off+(0+i) * 7+4,none⟩=some v4∧W.cell? ⟨g,off+(0+i) * 7+5,none⟩=some v5∧W.cell? ⟨g,off+(0+i) * 7+6,none⟩=some v6∧IsEx W (.agg #[v0,v1,v2,v3,v4,v5,v6]) t)∧Sx.fitsX t:=by
  intro i H0
  obtain⟨g,off,cs,n,y,rfl,hn,hl,hc,ht,hfy⟩:=hi i H0
  obtain⟨v0,v1,v2,v3,v4,v5,v6,t,rfl,hty,hfit⟩:=ih n hn cs y ht hfy
  rw[Nat.zero_add]
  exact⟨t,⟨g,off,v0,v1,v2,v3,v4,v5,v6,rfl,hc 0 (by decide),hc 1 (by decide),hc 2 (by decide),hc 3 (by decide),hc 4 (by decide),hc 5 (by decide),hc 6 (by decide),hty⟩,hfit⟩
 obtain⟨l,hl,hp⟩:=zbzZ len H1
 refine⟨l,⟨a,cap,by rw[hl],by omega,IsExs.mk fun m h=>(hp m h).1⟩,by omega,Sx.fitsXs_of fun t ht=>?_⟩
 obtain⟨i,hi,rfl⟩:=List.getElem_of_mem ht
 exact(hp i hi).2
theorem znwZ:∀(fuel:Nat) (cs:List Value) (x:DataW H×List MemPlace),DataW.trod enc Tryz.prog W 0 sp held fuel 39 cs=some x→Fit Tryz.prog 39 x.1→ExRead W cs:=by
 intro fuel
 induction fuel using Nat.strongRecOn with
 | _ fuel ih=>
  intro cs x h hf
  obtain⟨v0,v1,v2,v3,v4,v5,v6,rfl⟩:=znvZ ((zgdZ uEx h).trans cEx)
  obtain⟨n0,y0,l0,h0,q0⟩:=zyZ 0 uEx fEx0 h hf
  obtain⟨n1,y1,l1,h1,q1⟩:=zyZ 1 uEx fEx1 h hf
  obtain⟨n2,y2,l2,h2,q2⟩:=zyZ 2 uEx fEx2 h hf
  obtain⟨n3,y3,l3,h3,q3⟩:=zyZ 3 uEx fEx3 h hf
  obtain⟨n4,y4,l4,h4,q4⟩:=zyZ 4 uEx fEx4 h hf
  obtain⟨n5,y5,l5,h5,q5⟩:=zyZ 5 uEx fEx5 h hf
  obtain⟨n6,y6,l6,h6,q6⟩:=zyZ 6 uEx fEx6 h hf
  rw[cP]at h0
  rw[cI]at h1 h2
  rw[cS]at h3
  rw[cSlt]at h4
  rw[cSls]at h5
  rw[cSlEx]at h6
  simp only[List.drop_zero,List.drop_succ_cons,List.take_succ_cons,List.take_zero]at h0 h1 h2 h3 h4 h5 h6
  obtain⟨k0,rfl⟩:=zjlZ h0 q0
  obtain⟨k1,e1,_,_⟩:=DataW.trod_int Tryz.underlying3 h1
  injection e1 with e1
  subst e1
  obtain⟨k2,e2,_,w2⟩:=DataW.trod_int Tryz.underlying3 h2
  injection e2 with e2
  subst e2
  obtain⟨s,rfl,z3⟩:=zgmZ Tryz.underlying9 h3 q3
  obtain⟨ts,r4,z4,z4'⟩:=zjmZ h4 q4
  obtain⟨ns,r5,z5,z5'⟩:=zfjZ h5 q5
  obtain⟨ps,⟨A,c,rfl,hc,r6⟩,z6,z6'⟩:=zlyZ (fun n hn=>ih n (by omega)) h6 q6
  have hb:=znaZ w2
  refine⟨_,_,_,_,_,_,_,.mk k0 k1 k2 s ts ns ps,rfl,?_,?_⟩
  ·rw[IsEx]
   exact⟨_,_,A,c,rfl,r4,r5,hc,r6,hb.1,hb.2⟩
  ·rw[Sx.fitsX]
   exact⟨z3,z5,z5',z4,z4',z6,z6'⟩
def ExArg (W:World) (v:Value) (t:Sx.Ex):Prop:=IsEx W v t∧Sx.fitsX t
theorem zuwZ {base:Nat} {v:Value} {d:DataW H} {p:List MemPlace} (hval:Value.okWide Tryz.prog W .any base 39 v) (hd:DataW.Trod enc Tryz.prog W 0 sp held 39 v d p) (hf:Fit Tryz.prog 39 d) :
  ∃t,ExArg W v t:=by
 obtain⟨cs,rfl,hsz⟩:=okWide_struct uEx hval
 obtain⟨fuel,h⟩:=hd
 obtain⟨v0,v1,v2,v3,v4,v5,v6,t,he,ht,hfit⟩:=znwZ fuel _ _ h hf
 refine⟨t,?_,hfit⟩
 have:cs=#[v0,v1,v2,v3,v4,v5,v6]:=by
  apply Array.toList_inj.1
  exact he
 rw[this]
 exact ht
end
end Go.Proofs.YtdncljdfmdgdaaaGreatDoor
