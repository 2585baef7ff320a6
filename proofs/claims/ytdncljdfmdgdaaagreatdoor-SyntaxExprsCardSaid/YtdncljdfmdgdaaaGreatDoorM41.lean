/-
  The walk of coilref2.Apart.
-/
import Derived.Test.YtdncljdfmdgdaaaGreatDoorM1
import Derived.Test.YtdncljdfmdgdaaaGreatDoorM40
import Derived.Test.YtdncljdfmdgdaaaGreatDoorM19
import Derived.Test.YtdncljdfmdgdaaaGreatDoorM30
set_option linter.unusedSimpArgs false
set_option linter.unusedVariables false
set_option maxRecDepth 100000
set_option maxHeartbeats 16000000
namespace Go.Proofs.YtdncljdfmdgdaaaGreatDoor
open Go.RowKit Go.Shelf
theorem Sx.apart_false {l:List Lx.Bytes} (h:(∃s∈l,NM.small s=false)∨¬l.Nodup):Sx.apart NM l=false:=by
 cases ha:Sx.apart NM l with
 | false=>rfl
 | true=>
  obtain⟨h1,h2⟩:=(Sx.apart_iff NM l).1 ha
  rcases h with⟨s,hs,hf⟩ | h
  ·rw[h1 s hs]at hf;cases hf
  ·exact absurd h2 h
theorem znsZ {l:List Lx.Bytes} {i:Nat} (hi:i<l.length) (h:(l.take i).Nodup) (hn:∀p (hp:p<i),l[p]'(by omega)≠l[i]):(l.take (i+1)).Nodup:=by
 rw[List.take_succ_eq_append_getElem hi]
 refine List.nodup_append.2 ⟨h,by simp,fun x hx y hy e=>?_⟩
 simp only[List.mem_singleton]at hy
 subst hy e
 obtain⟨p,hp,hpe⟩:=List.getElem_of_mem hx
 have H0:p<i:=by rw[List.length_take]at hp;omega
 rw[List.getElem_take]at hpe
 exact hn p H0 hpe
theorem zhaZ {w0 W:World} (h0:LW w0 W) (l:List Lx.Bytes) (v:Value) (hv:StrRow W v l) (hl:l.length≤1000000) (hls:∀s∈l,s.length≤1000000) :
  Calls Tryz.prog 68 #[v] W fun e W'=>e=.returned (.bool (Sx.apart NM l))∧LW W W':=by
 obtain⟨A,c,rfl,hrow⟩:=hv
 have HV:=zh (show StrRow W (.slice A l.length c) l from⟨A,c,rfl,hrow⟩)
 have Hk:=zh hls
 have HW:=zh h0.self
 clear hrow hls h0
 obtain⟨k,hk⟩:=zE (l.length)
 rw[hk]at HV hl ⊢
 have HK:=zh hk
 have k0:(0:Int)≤(k:Int):=by omega
 have k1:(k:Int)≤1000000:=by omega
 clear hk
 go_enter Tryz.func68, Tryz.ntmps68
 go_wp2_with fail
 go_loopg [3,4] k (fun n v3 v4 wr=>∃i:Nat,n=k-i∧v3=.int .i64 (i:Nat)∧i≤k∧Sx.apart NM (l.take i)=true∧LW W wr)
 case atStart=>exact⟨0,rfl,rfl,Nat.zero_le _,by simp[Sx.apart],HW.o⟩
 case round=>
  obtain⟨i,hn,rfl,hi,hap,hw⟩:=hrel
  have HN:=zh hn
  have Ha:=zh ((Sx.apart_iff NM _).1 hap)
  have Hb:=zh hw
  have i0:(0:Int)≤(i:Int):=by omega
  have i1:(i:Int)≤1000000:=by omega
  clear hn hap hw
  by_cases hlt:i<k
  ·have Hi:(i:Int)<(k:Int):=by omega
   have H0:i<l.length:=by have:=HK.o;omega
   obtain⟨g,off,rfl,hsp⟩:=HV.o.spot i H0
   obtain⟨hg,q0⟩:=hsp wr Hb.o.b
   have H8:=Hk.o _ (List.getElem_mem H0)
   have H1:=List.getElem_mem H0
   have He:=zh (fun(h:NM.small l[i]=true) (hne:∀p (hp:p<i),l[p]'(by omega)≠l[i])=>(Sx.apart_iff NM (l.take (i+1))).2 ⟨fun s hs=>by
    rw[List.take_succ_eq_append_getElem H0,List.mem_append,List.mem_singleton]at hs
    rcases hs with hs | rfl
    ·exact Ha.o.1 s hs
    ·exact h,znsZ H0 Ha.o.2 hne⟩)
   have Hd:=zh hsp
   obtain⟨s,hs⟩:=zE (l[i]'H0)
   rw[hs]at q0 H8 H1 Hd He
   have H4:=zh (zitZ Hb.o s H8)
   have HS:=zh hs
   have Hc:=zh H1
   clear hsp H8 hs H1
   go_wp2_with fail
   cases hb:NM.small s with
   | false=>
    rw[hb]at H4
    have HF:=zh (Sx.apart_false (.inl ⟨s,Hc.o,hb⟩))
    clear hb
    refine H4.o.mono ?_
    rintro e w5 ⟨rfl,H5⟩
    go_wp2_with fail
    go_ret
    rw[HF.o]
    exact⟨rfl,H5⟩
   | true=>
    rw[hb]at H4
    have H6:=zh (He.o hb)
    clear hb
    refine H4.o.mono ?_
    rintro e w5 ⟨rfl,H5⟩
    have Hj:=zh H5
    clear H5 hg q0
    go_wp2_with fail
    go_loopg [4] i (fun n v4 w9=>∃j:Nat,n=i-j∧v4=.int .i64 (j:Nat)∧j≤i∧(∀p (hp:p<j) (hpl:p<l.length),l[p]'hpl≠s)∧LW W w9)
    case atStart=>exact⟨0,rfl,rfl,Nat.zero_le _,fun p hp=>by omega,Hj.o⟩
    case round=>
     obtain⟨j,hn,rfl,hj,hne,hw⟩:=hrel
     have Hh:=zh hn
     have Hf:=zh hne
     have H3:=zh hw
     have j0:(0:Int)≤(j:Int):=by omega
     have j1:(j:Int)≤1000000:=by omega
     clear hn hne hw
     by_cases hlt2:j<i
     ·have Hg:(j:Int)<(i:Int):=by omega
      have Hl:(j:Int)<(k:Int):=by omega
      have H7:j<l.length:=by omega
      obtain⟨hg,q0⟩:=Hd.o wr H3.o.b
      obtain⟨g2,off2,e2,hsp2⟩:=HV.o.spot j H7
      injection e2 with e2
      injection e2 with e2 e3
      subst e2 e3
      obtain⟨hg2,q1⟩:=hsp2 wr H3.o.b
      obtain⟨x,hx⟩:=zE (l[j]'H7)
      rw[hx]at q1
      have HX:=zh hx
      clear hsp2 hx
      cases hq:(s==x)with
      | true=>
       have H2:s=x:=by simpa using hq
       have HF:=zh (Sx.apart_false (l:=l) (.inr fun hnd=>by
        exact(List.pairwise_iff_getElem.1 hnd) j i H7 H0 hlt2 (by rw[HX.o,HS.o,H2])))
       clear H2
       go_wp2_with fail
       go_quiet (fail)
       go_wp2_with fail
       go_ret
       rw[HF.o]
       exact⟨rfl,H3.o.drewN _⟩
      | false=>
       have H2:¬s=x:=by simpa using hq
       have HF:=zh H2
       clear H2
       go_wp2_with fail
       go_quiet (fail)
       go_wp2_with fail
       go_roundg (i-(j+1))
       case measure=>have:=Hh.o;omega
       case rel=>
        refine⟨j+1,rfl,by simp,hlt2,fun p hp hpl=>?_,H3.o.drewN _⟩
        by_cases hpj:p<j
        ·exact Hf.o p hpj hpl
        ·obtain rfl:p=j:=by omega
         rw[HX.o]
         exact fun e=>HF.o e.symm
     ·have Hg:¬(j:Int)<(i:Int):=by omega
      have H9:=zh (H6.o fun p hp=>Hf.o p (by omega) (by omega))
      go_wp2_with fail
      go_roundg (k-(i+1))
      case measure=>have:=HN.o;omega
      case rel=>exact⟨i+1,rfl,by simp,hlt,H9.o,H3.o⟩
  ·have Hi:¬(i:Int)<(k:Int):=by omega
   have HF:=zh (show Sx.apart NM l=true by
    have h:=(Sx.apart_iff NM _).2 Ha.o
    rwa [List.take_of_length_le (by have:=HK.o;omega)]at h)
   go_wp2_with fail
   go_ret
   rw[HF.o]
   exact⟨rfl,Hb.o⟩
def RRightOk (d:Nat):Prop:=∀(t:Sx.Ty) (v:Value) (w0 W:World),LW w0 W→IsTy W v t→Sx.size t≤1000000→
 Calls Tryz.prog 27 #[v,.int .i64 (d:Nat)] W fun e W'=>e=.returned (.bool (Sx.rightT NM d t))∧LW W W'
theorem zqcZ:RRightOk 0:=by
 intro t v w0 W hG ht H0
 have HW:=zh hG.self
 obtain⟨An,cn,Ae,ce,Ap,cp,rfl,-,-,-⟩:=ht.agg
 clear hG
 go_enter Tryz.func27, Tryz.ntmps27
 go_wp2_with fail
 go_ret
 rw[Sx.right_zero]
 exact⟨rfl,HW.o.alloc _⟩
theorem zqdZ (d:Nat) (hd:d+1≤64) (ih:RRightOk d):RRightOk (d+1):=by
 intro t v w0 W hG ht J5
 have HW:=zh hG.self
 obtain⟨An,cn,Ae,ce,Ap,cp,rfl,hnm,hem,hp⟩:=ht.agg
 obtain⟨e,he⟩:∃e:Int,((d+1:Nat):Int)=e:=⟨_,rfl⟩
 have Jo:(e==0)=false:=by rw[beq_eq_false_iff_ne];omega
 have Js:1≤e:=by omega
 have Jn:e≤64:=by omega
 have Ho:∀(p:Sx.Ty) (u:Value) (X:World),LW W X→IsTy X u p→Sx.size p≤1000000→
   Calls Tryz.prog 27 #[u,.int .i64 (e-1)] X fun e X'=>e=.returned (.bool (Sx.rightT NM d p))∧LW W X'∧Below X.heap.size X X':=by
  intro p u X h1 h2 h3
  rw[show e-1=(d:Int)by omega]
  exact(ih p u W X h1 h2 h3).mono fun e X' h=>⟨h.1,h1.trans h.2,h.2.b⟩
 have J4:=Sx.size_parts t
 have Hw:=Sx.length_size t.parts
 have H8:=fun s (hs:s∈t.names)=>Sx.name_len (t:=t) hs
 have Hn:=zh (Sx.right_eq NM d t)
 obtain⟨k,hk⟩:=zE (t.parts.length)
 obtain⟨kd,hkd⟩:=zE (t.kind)
 obtain⟨nm,hnmm⟩:=zE (t.name)
 obtain⟨nl,hnl⟩:=zE (t.names.length)
 obtain⟨el,hel⟩:=zE (t.embeds.length)
 have Jl:(k:Int)≤1000000:=by omega
 have Jj:(nl:Int)≤1000000:=by omega
 have Jk:(el:Int)≤1000000:=by omega
 have Jm:(0:Int)≤(k:Int):=by omega
 have Jq:(0:Int)≤(nl:Int):=by omega
 have Jd:(0:Int)≤(el:Int):=by omega
 have Hx:nm.length≤1000000:=by rw[←hnmm];omega
 rw[he,hk,hkd,hnmm,hnl,hel]
 rw[hk]at hp
 rw[hnl]at hnm
 have HK:=zh hk
 have H2:=zh hkd
 have H3:=zh hnmm
 have H4:=zh hnl
 have H6:=zh hel
 have Hv:=zh Ho
 have Ji:=zh (show Sx.size t≤1000000 from J5)
 have Ja:=zh J4
 have HP:=zh hp
 have J3:=zh hnm
 have Hm:=zh (show ∀s∈t.names,s.length≤1000000 from fun s hs=>by have:=H8 s hs;omega)
 have Jp:=zh he
 obtain⟨L,hL⟩:=zE (W.heap.size)
 obtain⟨w2,hw2⟩:=zE (W.alloc (.cells #[.int .i64 kd,.string ⟨nm.toArray⟩,.slice An nl cn,.slice Ae el ce,.slice Ap k cp] 26))
 have He:w2.heap[L]? =some (.cells #[.int .i64 kd,.string ⟨nm.toArray⟩,.slice An nl cn,.slice Ae el ce,.slice Ap k cp] 26 (0,0)):=by rw[←hw2,←hL];exact heap_alloc_new W _
 have Hp:LW W w2:=by rw[←hw2];exact HW.o.alloc _
 have J7:=zh He
 have Je:=zh Hp
 have HL:=zh hL
 obtain⟨x0,x1,x2,x3,x4⟩:=zcZ He
 have Jr:=zaZ He
 clear ih hG ht hnm hem hp he Ho J4 Hw hk hkd hnmm hnl hel He Hp J5 H8
 go_enter Tryz.func27, Tryz.ntmps27
 go_wp2_with fail
 clear x0 x1 x2 x3 x4
 go_loopg [5] k (fun i v wr=>∃(m:Nat),i=k-m∧v=.int .i64 (m:Int)∧m≤k∧LW W wr∧wr.heap[L]? =w2.heap[L]? ∧(∀p∈t.parts.take m,Sx.rightT NM d p=true))
 case atStart=>exact⟨0,rfl,rfl,Nat.zero_le _,Je.o,rfl,by simp⟩
 case round=>
  obtain⟨m,hi,rfl,hm,hwr,hbr,hall⟩:=hrel
  rw[J7.o]at hbr
  obtain⟨x0,x1,x2,x3,x4⟩:=zcZ hbr
  have Hu:=zaZ hbr
  have HI:=zh hi
  have H0:=zh hwr
  have Hd:=zh hbr
  have Hh:=zh hall
  have m0:(0:Int)≤(m:Int):=by omega
  clear hi hwr hbr hall
  by_cases hlt:m<k
  ·have Jg:(m:Int)<(k:Int):=by omega
   have Hs:m<t.parts.length:=by have:=HK.o;omega
   obtain⟨g,off,An1,cn1,Ae1,ce1,Aq,cq,rfl,hty,hc5⟩:=HP.o.spot m Hs
   obtain⟨hg,c0,c1,c2,c3,c4⟩:=hc5 wr H0.o.b
   have Hl:=List.take_succ_eq_append_getElem Hs
   obtain⟨p,Ha⟩:=zE (t.parts[m]'Hs)
   have H9:p∈t.parts:=by rw[←Ha];exact List.getElem_mem Hs
   rw[Ha]at c0 c1 c2 c3 c4 Hl hty
   have J1:Sx.size p≤1000000:=by have:=Sx.size_mem H9;have:=Ja.o;have:=Ji.o;omega
   have Hi:=zh H9
   have Hy:=zh Hl
   have J6:=Hv.o p _ wr H0.o (IsTy.below H0.o.b _ _ hty) J1
   have Ht:=zh J6
   clear hty hc5 Ha H9 Hl J1 J6
   go_wp2_with fail
   cases hpr:Sx.rightT NM d p with
   | true=>
    rw[hpr]at Ht
    have Jh:=zh hpr
    clear hpr
    refine Ht.o.mono ?_
    rintro e w5 ⟨rfl,H5,J2⟩
    go_wp2_with fail
    go_roundg (k-(m+1))
    case measure=>have:=HI.o;omega
    case rel=>
     refine⟨m+1,rfl,by simp,hlt,H5,?_,?_⟩
     ·rw[J7.o,J2.block L Hu,Hd.o]
     ·rw[Hy.o]
      intro q hq
      rcases List.mem_append.1 hq with h | h
      ·exact Hh.o q h
      ·rw[List.mem_singleton]at h;rw[h];exact Jh.o
   | false=>
    rw[hpr]at Ht
    have HF:=zh (show Sx.rightT NM (d+1) t=false by rw[Hn.o,Sx.rights_not NM d Hi.o hpr];rfl)
    clear hpr
    refine Ht.o.mono ?_
    rintro e w5 ⟨rfl,H5,J2⟩
    go_wp2_with fail
    go_ret
    rw[HF.o]
    exact⟨rfl,H5⟩
  ·have Jg:¬(m:Int)<(k:Int):=by omega
   have H1:=zh (show Sx.rightT NM (d+1) t=Sx.shape NM t.kind t.name t.names t.embeds t.parts by
    rw[Hn.o,Sx.rights_all NM d]
    ·rfl
    ·have h:=Hh.o
     rwa [List.take_of_length_le (by have:=HK.o;omega)]at h)
   clear hlt hm
   go_upto_region 8 with(fail)
   go_cut [6] (fun v wx=>v=.bool (Sx.plain t)∧wx=wr)
   case first=>
    have Ha:Sx.plain t=(nm.isEmpty&&((nl==0)&&(el==0))):=by
     unfold Sx.plain
     rw[H3.o,←H4.o,←H6.o]
     cases t.names <;> cases t.embeds <;> rfl
    have Hr:=zh Ha
    clear Ha
    cases hb1:nm.isEmpty with
    | false=>
     go_wp2_with fail
     go_meet
     exact⟨by rw[Hr.o,hb1];rfl,rfl⟩
    | true=>
     by_cases hb2:nl=0
     ·have b2:((nl:Int)==0)=true:=by rw[beq_iff_eq];omega
      have Hc:=zh (show(nl==0)=true by rw[beq_iff_eq];omega)
      clear hb2
      by_cases hb3:el=0
      ·have b3:((el:Int)==0)=true:=by rw[beq_iff_eq];omega
       have Hk:=zh (show(el==0)=true by rw[beq_iff_eq];omega)
       clear hb3
       go_wp2_with fail
       go_meet
       exact⟨by rw[Hr.o,hb1,Hc.o,Hk.o];rfl,rfl⟩
      ·have b3:((el:Int)==0)=false:=by rw[beq_eq_false_iff_ne];omega
       have Hk:=zh (show(el==0)=false by rw[beq_eq_false_iff_ne];omega)
       clear hb3
       go_wp2_with fail
       go_meet
       exact⟨by rw[Hr.o,hb1,Hc.o,Hk.o];rfl,rfl⟩
     ·have b2:((nl:Int)==0)=false:=by rw[beq_eq_false_iff_ne];omega
      have Hc:=zh (show(nl==0)=false by rw[beq_eq_false_iff_ne];omega)
      clear hb2
      go_wp2_with fail
      go_meet
      exact⟨by rw[Hr.o,hb1,Hc.o];rfl,rfl⟩
   case rest=>
    obtain⟨rfl,hwc⟩:=hcut
    subst hwc
    by_cases hk1:kd=1
    ·subst hk1
     cases hpl:Sx.plain t with
     | true=>
      by_cases hc:k=0
      ·have bhc:((k:Int)==0)=true:=by rw[beq_iff_eq];omega
       have Hhc:=zh (show(t.parts.length==0)=true by have:=HK.o;have:=H4.o;have:=H6.o;rw[beq_iff_eq];omega)
       clear hc
       have HS:=zh (show Sx.shape NM 1 t.name t.names t.embeds t.parts=true by rw[Sx.shape1,hpl,Hhc.o];rfl)
       go_wp2_with fail
       go_ret
       refine⟨?_,H0.o⟩
       rw[H1.o,H2.o,HS.o]
       try rfl
      ·have bhc:((k:Int)==0)=false:=by rw[beq_eq_false_iff_ne];omega
       have Hhc:=zh (show(t.parts.length==0)=false by have:=HK.o;have:=H4.o;have:=H6.o;rw[beq_eq_false_iff_ne];omega)
       clear hc
       have HS:=zh (show Sx.shape NM 1 t.name t.names t.embeds t.parts=false by rw[Sx.shape1,hpl,Hhc.o];rfl)
       go_wp2_with fail
       go_ret
       refine⟨?_,H0.o⟩
       rw[H1.o,H2.o,HS.o]
       try rfl
     | false=>
      have HS:=zh (show Sx.shape NM 1 t.name t.names t.embeds t.parts=false by rw[Sx.shape1,hpl];rfl)
      go_wp2_with fail
      go_ret
      refine⟨?_,H0.o⟩
      rw[H1.o,H2.o,HS.o]
      try rfl
    by_cases hk2:kd=2
    ·subst hk2
     cases hpl:Sx.plain t with
     | true=>
      by_cases hc:k=0
      ·have bhc:((k:Int)==0)=true:=by rw[beq_iff_eq];omega
       have Hhc:=zh (show(t.parts.length==0)=true by have:=HK.o;have:=H4.o;have:=H6.o;rw[beq_iff_eq];omega)
       clear hc
       have HS:=zh (show Sx.shape NM 2 t.name t.names t.embeds t.parts=true by rw[Sx.shape2,hpl,Hhc.o];rfl)
       go_wp2_with fail
       go_ret
       refine⟨?_,H0.o⟩
       rw[H1.o,H2.o,HS.o]
       try rfl
      ·have bhc:((k:Int)==0)=false:=by rw[beq_eq_false_iff_ne];omega
       have Hhc:=zh (show(t.parts.length==0)=false by have:=HK.o;have:=H4.o;have:=H6.o;rw[beq_eq_false_iff_ne];omega)
       clear hc
       have HS:=zh (show Sx.shape NM 2 t.name t.names t.embeds t.parts=false by rw[Sx.shape2,hpl,Hhc.o];rfl)
       go_wp2_with fail
       go_ret
       refine⟨?_,H0.o⟩
       rw[H1.o,H2.o,HS.o]
       try rfl
     | false=>
      have HS:=zh (show Sx.shape NM 2 t.name t.names t.embeds t.parts=false by rw[Sx.shape2,hpl];rfl)
      go_wp2_with fail
      go_ret
      refine⟨?_,H0.o⟩
      rw[H1.o,H2.o,HS.o]
      try rfl
    by_cases hk3:kd=3
    ·subst hk3
     cases hpl:Sx.plain t with
     | true=>
      by_cases hc:k=0
      ·have bhc:((k:Int)==0)=true:=by rw[beq_iff_eq];omega
       have Hhc:=zh (show(t.parts.length==0)=true by have:=HK.o;have:=H4.o;have:=H6.o;rw[beq_iff_eq];omega)
       clear hc
       have HS:=zh (show Sx.shape NM 3 t.name t.names t.embeds t.parts=true by rw[Sx.shape3,hpl,Hhc.o];rfl)
       go_wp2_with fail
       go_ret
       refine⟨?_,H0.o⟩
       rw[H1.o,H2.o,HS.o]
       try rfl
      ·have bhc:((k:Int)==0)=false:=by rw[beq_eq_false_iff_ne];omega
       have Hhc:=zh (show(t.parts.length==0)=false by have:=HK.o;have:=H4.o;have:=H6.o;rw[beq_eq_false_iff_ne];omega)
       clear hc
       have HS:=zh (show Sx.shape NM 3 t.name t.names t.embeds t.parts=false by rw[Sx.shape3,hpl,Hhc.o];rfl)
       go_wp2_with fail
       go_ret
       refine⟨?_,H0.o⟩
       rw[H1.o,H2.o,HS.o]
       try rfl
     | false=>
      have HS:=zh (show Sx.shape NM 3 t.name t.names t.embeds t.parts=false by rw[Sx.shape3,hpl];rfl)
      go_wp2_with fail
      go_ret
      refine⟨?_,H0.o⟩
      rw[H1.o,H2.o,HS.o]
      try rfl
    by_cases hk5:kd=5
    ·subst hk5
     cases hpl:Sx.plain t with
     | true=>
      by_cases hc:k=1
      ·have bhc:((k:Int)==1)=true:=by rw[beq_iff_eq];omega
       have Hhc:=zh (show(t.parts.length==1)=true by have:=HK.o;have:=H4.o;have:=H6.o;rw[beq_iff_eq];omega)
       clear hc
       have HS:=zh (show Sx.shape NM 5 t.name t.names t.embeds t.parts=true by rw[Sx.shape5,hpl,Hhc.o];rfl)
       go_wp2_with fail
       go_ret
       refine⟨?_,H0.o⟩
       rw[H1.o,H2.o,HS.o]
       try rfl
      ·have bhc:((k:Int)==1)=false:=by rw[beq_eq_false_iff_ne];omega
       have Hhc:=zh (show(t.parts.length==1)=false by have:=HK.o;have:=H4.o;have:=H6.o;rw[beq_eq_false_iff_ne];omega)
       clear hc
       have HS:=zh (show Sx.shape NM 5 t.name t.names t.embeds t.parts=false by rw[Sx.shape5,hpl,Hhc.o];rfl)
       go_wp2_with fail
       go_ret
       refine⟨?_,H0.o⟩
       rw[H1.o,H2.o,HS.o]
       try rfl
     | false=>
      have HS:=zh (show Sx.shape NM 5 t.name t.names t.embeds t.parts=false by rw[Sx.shape5,hpl];rfl)
      go_wp2_with fail
      go_ret
      refine⟨?_,H0.o⟩
      rw[H1.o,H2.o,HS.o]
      try rfl
    by_cases hk7:kd=7
    ·subst hk7
     cases hpl:Sx.plain t with
     | true=>
      by_cases hc:1≤k
      ·have bhc:(0:Int)<(k:Int):=by omega
       have Hhc:=zh (show decide (1≤t.parts.length)=true by have:=HK.o;rw[decide_eq_true_eq];omega)
       clear hc
       have HS:=zh (show Sx.shape NM 7 t.name t.names t.embeds t.parts=true by rw[Sx.shape7,hpl,Hhc.o];rfl)
       go_wp2_with fail
       go_ret
       refine⟨?_,H0.o⟩
       rw[H1.o,H2.o,HS.o]
       show Ending.returned (Value.bool (decide (0<k)))=_
       rw[decide_eq_true (show 0<k by omega)]
      ·have bhc:¬(0:Int)<(k:Int):=by omega
       have Hhc:=zh (show decide (1≤t.parts.length)=false by have:=HK.o;rw[decide_eq_false_iff_not];omega)
       have Jb:k=0:=by omega
       clear hc
       subst Jb
       have HS:=zh (show Sx.shape NM 7 t.name t.names t.embeds t.parts=false by rw[Sx.shape7,hpl,Hhc.o];rfl)
       go_wp2_with fail
       go_ret
       refine⟨?_,H0.o⟩
       rw[H1.o,H2.o,HS.o]
       try rfl
     | false=>
      have HS:=zh (show Sx.shape NM 7 t.name t.names t.embeds t.parts=false by rw[Sx.shape7,hpl];rfl)
      go_wp2_with fail
      go_ret
      refine⟨?_,H0.o⟩
      rw[H1.o,H2.o,HS.o]
      try rfl
    by_cases hk4:kd=4
    ·subst hk4
     have Hq:=zh (ziuZ H0.o.self nm Hx)
     cases hg:NM.great nm with
     | true=>
      rw[hg]at Hq
      by_cases hz:nl=0∧el=0∧k=0
      ·obtain⟨rfl,rfl,rfl⟩:=hz
       have HS:=zh (show Sx.shape NM 4 t.name t.names t.embeds t.parts=true by rw[Sx.shape4,H3.o,hg,H4.o,H6.o,HK.o];rfl)
       go_wp2_with (go_at_call 67;refine Hq.o.mono ?_;rintro e w5 ⟨rfl,H5⟩;have Hg:=(H5.b.block L Hu).trans Hd.o;obtain⟨x0,x1,x2,x3,x4⟩:=zcZ Hg;have J8:=zaZ Hg)
       go_ret
       refine⟨?_,H0.o.trans H5⟩
       rw[H1.o,H2.o,HS.o]
       try rfl
      ·have bz:((nl:Int)+(el:Int)+(k:Int)==0)=false:=by rw[beq_eq_false_iff_ne];omega
       have Jc:((nl==0)&&((el==0)&&(k==0)))=false:=by
        cases h1:(nl==0) <;> cases h2:(el==0) <;> cases h3:(k==0) <;> simp_all
       have HS:=zh (show Sx.shape NM 4 t.name t.names t.embeds t.parts=false by rw[Sx.shape4,H3.o,hg,H4.o,H6.o,HK.o,Jc];rfl)
       go_wp2_with (go_at_call 67;refine Hq.o.mono ?_;rintro e w5 ⟨rfl,H5⟩;have Hg:=(H5.b.block L Hu).trans Hd.o;obtain⟨x0,x1,x2,x3,x4⟩:=zcZ Hg;have J8:=zaZ Hg)
       go_ret
       refine⟨?_,H0.o.trans H5⟩
       rw[H1.o,H2.o,HS.o]
       try rfl
     | false=>
      rw[hg]at Hq
      have HS:=zh (show Sx.shape NM 4 t.name t.names t.embeds t.parts=false by rw[Sx.shape4,H3.o,hg];rfl)
      go_wp2_with (go_at_call 67;refine Hq.o.mono ?_;rintro e w5 ⟨rfl,H5⟩;have Hg:=(H5.b.block L Hu).trans Hd.o;obtain⟨x0,x1,x2,x3,x4⟩:=zcZ Hg;have J8:=zaZ Hg)
      go_ret
      refine⟨?_,H0.o.trans H5⟩
      rw[H1.o,H2.o,HS.o]
      try rfl
    by_cases hk6:kd=6
    ·subst hk6
     have Hb:=zh ((zhaZ H0.o t.names (.slice An nl cn) (J3.o.below H0.o.b) (by have:=H4.o;omega) Hm.o).mono fun e w' h=>(show e=.returned (.bool (Sx.apart NM t.names))∧LW W w' from⟨h.1,H0.o.trans h.2⟩))
     cases hn:nm.isEmpty with
     | true=>
      by_cases h1:nl=k
      ·have bh1:((nl:Int)==(k:Int))=true:=by rw[beq_iff_eq];omega
       have Hh1:=zh (show(t.names.length==t.parts.length)=true by have:=HK.o;have:=H4.o;have:=H6.o;rw[beq_iff_eq];omega)
       clear h1
       by_cases h2:el=k
       ·have bh2:((el:Int)==(k:Int))=true:=by rw[beq_iff_eq];omega
        have Hh2:=zh (show(t.embeds.length==t.parts.length)=true by have:=HK.o;have:=H4.o;have:=H6.o;rw[beq_iff_eq];omega)
        clear h2
        cases hu:Sx.apart NM t.names with
        | true=>
         rw[hu]at Hb
         have HS:=zh (show Sx.shape NM 6 t.name t.names t.embeds t.parts=true by have e1:=Hh1.o;have e2:=Hh2.o;rw[Sx.shape6,H3.o,hn,hu,show(t.embeds.length==t.names.length)=true by(rw[beq_iff_eq]at e1 e2 ⊢;omega),show(t.parts.length==t.names.length)=true by(rw[beq_iff_eq]at e1 ⊢;omega)];rfl)
         go_wp2_with (go_at_call 68;refine Hb.o.mono ?_;rintro e w5 ⟨rfl,H5⟩)
         go_ret
         refine⟨?_,H5⟩
         rw[H1.o,H2.o,HS.o]
         try rfl
        | false=>
         rw[hu]at Hb
         have HS:=zh (show Sx.shape NM 6 t.name t.names t.embeds t.parts=false by rw[Sx.shape6,hu];simp)
         go_wp2_with (go_at_call 68;refine Hb.o.mono ?_;rintro e w5 ⟨rfl,H5⟩)
         go_ret
         refine⟨?_,H5⟩
         rw[H1.o,H2.o,HS.o]
         try rfl
       ·have bh2:((el:Int)==(k:Int))=false:=by rw[beq_eq_false_iff_ne];omega
        have Hh2:=zh (show(t.embeds.length==t.parts.length)=false by have:=HK.o;have:=H4.o;have:=H6.o;rw[beq_eq_false_iff_ne];omega)
        clear h2
        have HS:=zh (show Sx.shape NM 6 t.name t.names t.embeds t.parts=false by have e1:=Hh1.o;have e2:=Hh2.o;rw[Sx.shape6,H3.o,hn,show(t.embeds.length==t.names.length)=false by(rw[beq_iff_eq]at e1;rw[beq_eq_false_iff_ne]at e2 ⊢;omega)];rfl)
        go_wp2_with fail
        go_ret
        refine⟨?_,H0.o⟩
        rw[H1.o,H2.o,HS.o]
        try rfl
      ·have bh1:((nl:Int)==(k:Int))=false:=by rw[beq_eq_false_iff_ne];omega
       have Hh1:=zh (show(t.names.length==t.parts.length)=false by have:=HK.o;have:=H4.o;have:=H6.o;rw[beq_eq_false_iff_ne];omega)
       clear h1
       have HS:=zh (show Sx.shape NM 6 t.name t.names t.embeds t.parts=false by have e1:=Hh1.o;rw[Sx.shape6,H3.o,hn,show(t.parts.length==t.names.length)=false by(rw[beq_eq_false_iff_ne]at e1 ⊢;omega)];simp)
       go_wp2_with fail
       go_ret
       refine⟨?_,H0.o⟩
       rw[H1.o,H2.o,HS.o]
       try rfl
     | false=>
      have HS:=zh (show Sx.shape NM 6 t.name t.names t.embeds t.parts=false by rw[Sx.shape6,H3.o,hn];rfl)
      go_wp2_with fail
      go_ret
      refine⟨?_,H0.o⟩
      rw[H1.o,H2.o,HS.o]
      try rfl
    by_cases hk8:kd=8
    ·subst hk8
     go_wp2_with fail
     go_loopg [7] k (fun i v wq=>∃(m:Nat),i=k-m∧v=.int .i64 (m:Int)∧m≤k∧wq=wc∧(∀p∈t.parts.take m,p.kind=7))
     case atStart=>exact⟨0,rfl,rfl,Nat.zero_le _,rfl,by simp⟩
     case round=>
      obtain⟨m2,hi2,rfl,hm2,rfl,hr2⟩:=hrel
      have Jf:=zh hi2
      have J0:=zh hr2
      have m20:(0:Int)≤(m2:Int):=by omega
      clear hi2 hr2
      by_cases hlt2:m2<k
      ·have Hz:(m2:Int)<(k:Int):=by omega
       have Hf:m2<t.parts.length:=by have:=HK.o;omega
       obtain⟨g,off,An1,cn1,Ae1,ce1,Aq,cq,rfl,hty,hc5⟩:=HP.o.spot m2 Hf
       obtain⟨hg,c0,c1,c2,c3,c4⟩:=hc5 wr H0.o.b
       have Hl:=List.take_succ_eq_append_getElem Hf
       obtain⟨p,Ha⟩:=zE (t.parts[m2]'Hf)
       have H9:p∈t.parts:=by rw[←Ha];exact List.getElem_mem Hf
       rw[Ha]at c0 c1 c2 c3 c4 Hl
       obtain⟨kp,hkp⟩:=zE (p.kind)
       rw[hkp]at c0
       have Hi:=zh H9
       have Hy:=zh Hl
       have J9:=zh hkp
       clear hty hc5 Ha H9 Hl hkp
       by_cases h7:kp=7
       ·have b7:(kp != 7)=false:=by simp[h7]
        have H7:=zh h7
        clear h7
        go_wp2_with fail
        go_roundg (k-(m2+1))
        case measure=>have:=Jf.o;omega
        case rel=>
         refine⟨m2+1,rfl,by simp,hlt2,rfl,?_⟩
         rw[Hy.o]
         intro q hq
         rcases List.mem_append.1 hq with h | h
         ·exact J0.o q h
         ·rw[List.mem_singleton]at h;rw[h,J9.o,H7.o]
       ·have b7:(kp != 7)=true:=by simp[h7]
        have HS:=zh (show Sx.shape NM 8 t.name t.names t.embeds t.parts=false by
         rw[Sx.shape8]
         have:(t.parts.all fun p=>p.kind==7)=false:=by
          rw[List.all_eq_false]
          exact⟨p,Hi.o,by simp[J9.o,h7]⟩
         rw[this];rfl)
        clear h7
        go_wp2_with fail
        go_ret
        refine⟨?_,H0.o⟩
        rw[H1.o,H2.o,HS.o]
        try rfl
      ·have Hz:¬(m2:Int)<(k:Int):=by omega
       have Hj:=zh (show(t.parts.all fun p=>p.kind==7)=true by
        rw[List.all_eq_true]
        intro p hp
        have:=J0.o p (by rw[List.take_of_length_le (by have:=HK.o;omega)];exact hp)
        simp[this])
       have Hb:=zh ((zhaZ H0.o t.names (.slice An nl cn) (J3.o.below H0.o.b) (by have:=H4.o;omega) Hm.o).mono fun e w' h=>(show e=.returned (.bool (Sx.apart NM t.names))∧LW W w' from⟨h.1,H0.o.trans h.2⟩))
       cases hn:nm.isEmpty with
       | true=>
        by_cases h1:nl=k
        ·have bh1:((nl:Int)==(k:Int))=true:=by rw[beq_iff_eq];omega
         have Hh1:=zh (show(t.names.length==t.parts.length)=true by have:=HK.o;have:=H4.o;have:=H6.o;rw[beq_iff_eq];omega)
         clear h1
         by_cases h2:el=0
         ·have bh2:((el:Int)==0)=true:=by rw[beq_iff_eq];omega
          have Hh2:=zh (show(t.embeds.length==0)=true by have:=HK.o;have:=H4.o;have:=H6.o;rw[beq_iff_eq];omega)
          clear h2
          cases hu:Sx.apart NM t.names with
          | true=>
           rw[hu]at Hb
           have HS:=zh (show Sx.shape NM 8 t.name t.names t.embeds t.parts=true by have e1:=Hh1.o;rw[Sx.shape8,Hj.o,H3.o,hn,hu,Hh2.o,show(t.parts.length==t.names.length)=true by(rw[beq_iff_eq]at e1 ⊢;omega)];rfl)
           go_wp2_with (go_at_call 68;refine Hb.o.mono ?_;rintro e w5 ⟨rfl,H5⟩)
           go_ret
           refine⟨?_,H5⟩
           rw[H1.o,H2.o,HS.o]
           try rfl
          | false=>
           rw[hu]at Hb
           have HS:=zh (show Sx.shape NM 8 t.name t.names t.embeds t.parts=false by rw[Sx.shape8,hu];simp)
           go_wp2_with (go_at_call 68;refine Hb.o.mono ?_;rintro e w5 ⟨rfl,H5⟩)
           go_ret
           refine⟨?_,H5⟩
           rw[H1.o,H2.o,HS.o]
           try rfl
         ·have bh2:((el:Int)==0)=false:=by rw[beq_eq_false_iff_ne];omega
          have Hh2:=zh (show(t.embeds.length==0)=false by have:=HK.o;have:=H4.o;have:=H6.o;rw[beq_eq_false_iff_ne];omega)
          clear h2
          have HS:=zh (show Sx.shape NM 8 t.name t.names t.embeds t.parts=false by rw[Sx.shape8,Hj.o,H3.o,hn,Hh2.o];rfl)
          go_wp2_with fail
          go_ret
          refine⟨?_,H0.o⟩
          rw[H1.o,H2.o,HS.o]
          try rfl
        ·have bh1:((nl:Int)==(k:Int))=false:=by rw[beq_eq_false_iff_ne];omega
         have Hh1:=zh (show(t.names.length==t.parts.length)=false by have:=HK.o;have:=H4.o;have:=H6.o;rw[beq_eq_false_iff_ne];omega)
         clear h1
         have HS:=zh (show Sx.shape NM 8 t.name t.names t.embeds t.parts=false by have e1:=Hh1.o;rw[Sx.shape8,show(t.parts.length==t.names.length)=false by(rw[beq_eq_false_iff_ne]at e1 ⊢;omega)];simp)
         go_wp2_with fail
         go_ret
         refine⟨?_,H0.o⟩
         rw[H1.o,H2.o,HS.o]
         try rfl
       | false=>
        have HS:=zh (show Sx.shape NM 8 t.name t.names t.embeds t.parts=false by rw[Sx.shape8,Hj.o,H3.o,hn];rfl)
        go_wp2_with fail
        go_ret
        refine⟨?_,H0.o⟩
        rw[H1.o,H2.o,HS.o]
        try rfl
    have e1:(kd==1)=false:=by simp[hk1]
    have e2:(kd==2)=false:=by simp[hk2]
    have e3:(kd==3)=false:=by simp[hk3]
    have e4:(kd==4)=false:=by simp[hk4]
    have e5:(kd==5)=false:=by simp[hk5]
    have e6:(kd==6)=false:=by simp[hk6]
    have e7:(kd==7)=false:=by simp[hk7]
    have e8:(kd==8)=false:=by simp[hk8]
    have HS:=zh (show Sx.shape NM kd t.name t.names t.embeds t.parts=false by unfold Sx.shape;rw[if_neg (by omega),if_neg hk4,if_neg hk5,if_neg hk7,if_neg hk6,if_neg hk8])
    clear hk1 hk2 hk3 hk4 hk5 hk6 hk7 hk8
    go_wp2_with fail
    go_ret
    refine⟨?_,H0.o⟩
    rw[H1.o,H2.o,HS.o]
    try rfl
theorem zldZ:∀(d:Nat),d≤64→RRightOk d
 | 0,_=>zqcZ
 | d+1,h=>zqdZ d h (zldZ d (by omega))
def StI (S:World→Prop):Nat→World→Value→Prop:=fun _ w _=>S w
def StM:World→Value→Nat→World→Value→Nat→Prop:=fun w _ _ w' _ _=>Below w.heap.size w w'
def WF (p:Value→World→Prop):Value→World→Value→Nat→Prop:=fun x w _ _=>p x w
theorem WF.stays {p:Value→World→Prop} (h:∀x w w',Below w.heap.size w w'→p x w→p x w'):Stays StM (WF p):=fun x w r k w' r' k' hm hh=>h x w w' hm hh
theorem WF.row {l:List Lx.Bytes} : Stays StM (WF fun x w=>StrRow w x l):=WF.stays fun _ _ _ h hh=>hh.below h
theorem WF.tys {l:List Sx.Ty} : Stays StM (WF fun x w=>TyRow w x l):=WF.stays fun _ _ _ h hh=>hh.below h
end Go.Proofs.YtdncljdfmdgdaaaGreatDoor
