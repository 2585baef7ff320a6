/-
  The walk of rightType.
-/
import Derived.Test.YtdncljdfmdgdaaaGreatDoorM1
import Derived.Test.YtdncljdfmdgdaaaGreatDoorM18
import Derived.Test.YtdncljdfmdgdaaaGreatDoorM12
set_option linter.unusedSimpArgs false
set_option linter.unusedVariables false
set_option maxRecDepth 100000
set_option maxHeartbeats 16000000
namespace Go.Proofs.YtdncljdfmdgdaaaGreatDoor
open Go.RowKit Go.Shelf Go.WideMaps
theorem Sx.right_zero (N:Sx.Names) (t:Sx.Ty):Sx.rightT N 0 t=false:=by cases t;simp[Sx.rightT]
def Sx.plain (t:Sx.Ty):Bool:=t.name.isEmpty&&(t.names.isEmpty&&t.embeds.isEmpty)
theorem Sx.right_eq (N:Sx.Names) (d:Nat) (t:Sx.Ty):Sx.rightT N (d+1) t=(Sx.rightTs N d t.parts&&Sx.shape N t.kind t.name t.names t.embeds t.parts):=by cases t;rw[Sx.rightT];rfl
theorem Sx.rights_all (N:Sx.Names) (d:Nat):∀ {l:List Sx.Ty},(∀p∈l,Sx.rightT N d p=true)→Sx.rightTs N d l=true
 | [],_=>by rw[Sx.rightTs]
 | t::l,h=>by rw[Sx.rightTs,h t (List.mem_cons_self ..),Sx.rights_all N d fun p hp=>h p (List.mem_cons_of_mem _ hp)];rfl
theorem Sx.rights_not (N:Sx.Names) (d:Nat) {l:List Sx.Ty} {p:Sx.Ty} (hp:p∈l) (h:Sx.rightT N d p=false):Sx.rightTs N d l=false:=by
 cases hr:Sx.rightTs N d l with
 | false=>rfl
 | true=>rw[Sx.rights_mem hr p hp]at h;cases h
theorem Sx.len0 {α:Type} (l:List α):l.isEmpty=(l.length==0):=by cases l <;> rfl
theorem Sx.shape1 {N:Sx.Names} {t:Sx.Ty} : Sx.shape N 1 t.name t.names t.embeds t.parts=(Sx.plain t&&(t.parts.length==0)):=by simp[Sx.shape,Sx.plain,Sx.len0,Bool.and_assoc]
theorem Sx.shape2 {N:Sx.Names} {t:Sx.Ty} : Sx.shape N 2 t.name t.names t.embeds t.parts=(Sx.plain t&&(t.parts.length==0)):=by simp[Sx.shape,Sx.plain,Sx.len0,Bool.and_assoc]
theorem Sx.shape3 {N:Sx.Names} {t:Sx.Ty} : Sx.shape N 3 t.name t.names t.embeds t.parts=(Sx.plain t&&(t.parts.length==0)):=by simp[Sx.shape,Sx.plain,Sx.len0,Bool.and_assoc]
theorem Sx.shape4 {N:Sx.Names} {t:Sx.Ty} : Sx.shape N 4 t.name t.names t.embeds t.parts=(N.great t.name&&((t.names.length==0)&&((t.embeds.length==0)&&(t.parts.length==0)))):=by simp[Sx.shape,Sx.len0,Bool.and_assoc]
theorem Sx.shape5 {N:Sx.Names} {t:Sx.Ty} : Sx.shape N 5 t.name t.names t.embeds t.parts=(Sx.plain t&&(t.parts.length==1)):=by simp[Sx.shape,Sx.plain,Sx.len0,Bool.and_assoc]
theorem Sx.shape7 {N:Sx.Names} {t:Sx.Ty} : Sx.shape N 7 t.name t.names t.embeds t.parts=(Sx.plain t&&decide (1≤t.parts.length)):=by simp[Sx.shape,Sx.plain,Sx.len0,Bool.and_assoc]
theorem Sx.shape6 {N:Sx.Names} {t:Sx.Ty} : Sx.shape N 6 t.name t.names t.embeds t.parts=(t.name.isEmpty&&((t.embeds.length==t.names.length)&&((t.parts.length==t.names.length)&&Sx.apart N t.names))):=by simp[Sx.shape,Bool.and_assoc]
theorem Sx.shape8 {N:Sx.Names} {t:Sx.Ty} : Sx.shape N 8 t.name t.names t.embeds t.parts=((t.parts.all fun p=>p.kind==7)&&(t.name.isEmpty&&((t.embeds.length==0)&&((t.parts.length==t.names.length)&&Sx.apart N t.names)))):=by simp[Sx.shape,Sx.len0,Bool.and_assoc]
def RightOk (d:Nat):Prop:=∀(t:Sx.Ty) (v:Value) (W:World),GS W→NG≤W.heap.size→IsTy W v t→Sx.size t≤1000000→
 Calls Tryz.prog 58 #[v,.int .i64 (d:Nat)] W fun e W'=>e=.returned (.bool (Sx.rightT NM d t))∧Below W.heap.size W W'
theorem zojZ:RightOk 0:=by
 intro t v W hG hN ht H0
 obtain⟨An,cn,Ae,ce,Ap,cp,rfl,-,-,-⟩:=ht.agg
 go_enter Tryz.func58, Tryz.ntmps58
 go_wp2_with fail
 go_ret
 rw[Sx.right_zero]
 exact⟨rfl,zeZ (World.grownBy_alloc W _ _)⟩
theorem zokZ (d:Nat) (hd:d+1≤64) (ih:RightOk d):RightOk (d+1):=by
 intro t v W hG hN ht Jh
 obtain⟨An,cn,Ae,ce,Ap,cp,rfl,hnm,hem,hp⟩:=ht.agg
 obtain⟨e,he⟩:∃e:Int,((d+1:Nat):Int)=e:=⟨_,rfl⟩
 have Jx:(e==0)=false:=by rw[beq_eq_false_iff_ne];omega
 have U2:1≤e:=by omega
 have Jw:e≤64:=by omega
 have Hs:∀(p:Sx.Ty) (u:Value) (X:World),GS X→NG≤X.heap.size→IsTy X u p→Sx.size p≤1000000→
   Calls Tryz.prog 58 #[u,.int .i64 (e-1)] X fun e X'=>e=.returned (.bool (Sx.rightT NM d p))∧Below X.heap.size X X':=by
  intro p u X h1 h2 h3 h4
  rw[show e-1=(d:Int)by omega]
  exact ih p u X h1 h2 h3 h4
 have J8:=Sx.size_parts t
 have Hy:=Sx.length_size t.parts
 have Hr:=zh (Sx.right_eq NM d t)
 obtain⟨k,hk⟩:=zE (t.parts.length)
 obtain⟨kd,hkd⟩:=zE (t.kind)
 have Jr:(k:Int)≤1000000:=by omega
 have Jp:(t.names.length:Int)≤1000000:=by omega
 have Jq:(t.embeds.length:Int)≤1000000:=by omega
 have Js:(0:Int)≤(k:Int):=by omega
 have Jz:(0:Int)≤(t.names.length:Int):=by omega
 have Jg:(0:Int)≤(t.embeds.length:Int):=by omega
 rw[he,hk,hkd]
 rw[hk]at hp
 have HK:=zh hk
 have H3:=zh hkd
 have Hx:=zh Hs
 have HG:=zh hG
 have Hm:=zh (show Sx.size t≤1000000∧t.name.length+t.names.length≤1000000 by omega)
 have Je:=zh J8
 have HP:=zh hp
 have J7:=zh hnm
 have Jy:=zh he
 obtain⟨L,hL⟩:=zE (W.heap.size)
 have hNL:NG≤L:=by omega
 obtain⟨w2,hw2⟩:=zE (W.alloc (.cells #[.int .i64 kd,.string ⟨t.name.toArray⟩,.slice An t.names.length cn,.slice Ae t.embeds.length ce,.slice Ap k cp] 26))
 have Hf:w2.heap[L]? =some (.cells #[.int .i64 kd,.string ⟨t.name.toArray⟩,.slice An t.names.length cn,.slice Ae t.embeds.length ce,.slice Ap k cp] 26 (0,0)):=by rw[←hw2,←hL];exact heap_alloc_new W _
 have Ho:Below L W w2:=by rw[←hw2,←hL];exact zeZ (World.grownBy_alloc W _ none)
 have Ja:=zh Hf
 have Ji:=zh Ho
 have HL:=zh hL
 obtain⟨x0,x1,x2,x3,x4⟩:=zcZ Hf
 have U1:=zaZ Hf
 clear ih hG ht hnm hem hp he Hs J8 Hy hk hkd Hf Ho Jh
 go_enter Tryz.func58, Tryz.ntmps58
 go_wp2_with fail
 clear x0 x1 x2 x3 x4
 go_loopg [18] k (fun i v wr=>∃(m:Nat),i=k-m∧v=.int .i64 (m:Int)∧m≤k∧Below L W wr∧wr.heap[L]? =w2.heap[L]? ∧(∀p∈t.parts.take m,Sx.rightT NM d p=true))
 case atStart=>exact⟨0,rfl,rfl,Nat.zero_le _,Ji.o,rfl,by simp⟩
 case round=>
  obtain⟨m,hi,rfl,hm,hwr,hbr,hall⟩:=hrel
  rw[Ja.o]at hbr
  obtain⟨x0,x1,x2,x3,x4⟩:=zcZ hbr
  have Jn:=zaZ hbr
  have hLs:L≤wr.heap.size:=by have:=hwr.size;have:=HL.o;omega
  have HI:=zh hi
  have J2:=zh hwr
  have Hb:=zh hbr
  have Hh:=zh hall
  have m0:(0:Int)≤(m:Int):=by omega
  clear hi hwr hbr hall
  by_cases hlt:m<k
  ·have Jl:(m:Int)<(k:Int):=by omega
   have Hu:m<t.parts.length:=by have:=HK.o;omega
   obtain⟨g,off,An1,cn1,Ae1,ce1,Aq,cq,rfl,hty,hc5⟩:=HP.o.spot m Hu
   rw[HL.o]at hc5
   obtain⟨hg,c0,c1,c2,c3,c4⟩:=hc5 wr J2.o
   have Hk:=List.take_succ_eq_append_getElem Hu
   obtain⟨p,Hc⟩:=zE (t.parts[m]'Hu)
   have H6:p∈t.parts:=by rw[←Hc];exact List.getElem_mem Hu
   rw[Hc]at c0 c1 c2 c3 c4 Hk hty
   have Jm:=Sx.parts_mem (l:=[t]) (t:=t) (by simp)
   have J5:Sx.size p≤1000000:=by have:=Sx.size_mem H6;have:=Je.o;have:=Hm.o;omega
   have Jd:=zh J5
   have Hi:=zh H6
   have Hz:=zh Hk
   have Jf:=zh hty
   obtain⟨w4,hw4⟩:=zE (wr.alloc (.cells #[.int .i64 p.kind,.string ⟨p.name.toArray⟩,.slice An1 p.names.length cn1,.slice Ae1 p.embeds.length ce1,.slice Aq p.parts.length cq] 26))
   have H9:w4.heap[wr.heap.size]? =some (.cells #[.int .i64 p.kind,.string ⟨p.name.toArray⟩,.slice An1 p.names.length cn1,.slice Ae1 p.embeds.length ce1,.slice Aq p.parts.length cq] 26 (0,0)):=by rw[←hw4];exact heap_alloc_new wr _
   have J0:Below wr.heap.size wr w4:=by rw[←hw4];exact zeZ (World.grownBy_alloc wr _ none)
   have Jv:=zaZ H9
   obtain⟨y0,y1,y2,y3,y4⟩:=zcZ H9
   have hB4:Below L W w4:=J2.o.trans (J0.mono hLs)
   have J9:=Hx.o p _ w4 (HG.o.below (by rw[HL.o];exact hB4)) (by omega) (Jf.o.below (by rw[HL.o];exact hB4)) Jd.o
   have Hv:=zh J9
   have J6:=zh hB4
   have J3:=zh ((J0.block L Jn).trans Hb.o)
   have hL4:L<w4.heap.size:=by omega
   clear hty hc5 Hc H6 Hk Jm J5 J9 hB4 J0 H9
   cases hpr:Sx.rightT NM d p with
   | true=>
    rw[hpr]at Hv
    have Jo:=zh hpr
    clear hpr
    go_wp2_with (go_at_call 58;refine Hv.o.mono ?_;rintro e w5 ⟨rfl,H4⟩)
    go_roundg (k-(m+1))
    case measure=>have:=HI.o;omega
    case rel=>
     refine⟨m+1,rfl,by simp,hlt,J6.o.trans (H4.mono (by omega)),?_,?_⟩
     ·rw[Ja.o,H4.block L hL4,J3.o]
     ·rw[Hz.o]
      intro q hq
      rcases List.mem_append.1 hq with h | h
      ·exact Hh.o q h
      ·rw[List.mem_singleton]at h;rw[h];exact Jo.o
   | false=>
    rw[hpr]at Hv
    have HF:=zh (show Sx.rightT NM (d+1) t=false by rw[Hr.o,Sx.rights_not NM d Hi.o hpr];rfl)
    clear hpr
    go_wp2_with (go_at_call 58;refine Hv.o.mono ?_;rintro e w5 ⟨rfl,H4⟩)
    go_ret
    rw[HF.o,HL.o]
    exact⟨rfl,J6.o.trans (H4.mono (by omega))⟩
  ·have Jl:¬(m:Int)<(k:Int):=by omega
   have H2:=zh (show Sx.rightT NM (d+1) t=Sx.shape NM t.kind t.name t.names t.embeds t.parts by
    rw[Hr.o,Sx.rights_all NM d]
    ·rfl
    ·have h:=Hh.o
     rwa [List.take_of_length_le (by have:=HK.o;omega)]at h)
   go_wp2_with fail
   go_quiet (fail)
   obtain⟨w3,hw3⟩:=zE (wr.drewN nq)
   have Hn:Below L W w3:=by rw[←hw3];exact J2.o.trans ⟨rfl,rfl,rfl,Nat.le_refl _,fun _ _=>rfl⟩
   have Ha:w3.heap[L]? =wr.heap[L]? :=by rw[←hw3];rfl
   rw[Hb.o]at Ha
   rw[hw3]
   clear x0 x1 x2 x3 x4 Hb hw3
   obtain⟨x0,x1,x2,x3,x4⟩:=zcZ Ha
   have Hw:=zaZ Ha
   have Hb:=zh Ha
   have H0:=zh Hn
   clear Ha Hn
   go_upto_region 10 with fail
   go_cut [10] (fun v wx=>v=.bool (Sx.plain t)∧wx=w3)
   case first=>
    have Hc:Sx.plain t=(t.name.isEmpty&&((t.names.length==0)&&(t.embeds.length==0))):=by
     unfold Sx.plain
     cases t.names <;> cases t.embeds <;> rfl
    have Ht:=zh Hc
    clear Hc
    cases hb1:t.name.isEmpty with
    | false=>
     go_wp2_with fail
     go_meet
     exact⟨by rw[Ht.o,hb1];rfl,rfl⟩
    | true=>
     by_cases Ho:t.names.length=0
     ·have b2:((t.names.length:Int)==0)=true:=by rw[beq_iff_eq];omega
      have He:=zh (show(t.names.length==0)=true by rw[beq_iff_eq];omega)
      clear Ho
      by_cases hb3:t.embeds.length=0
      ·have b3:((t.embeds.length:Int)==0)=true:=by rw[beq_iff_eq];omega
       have Hj:=zh (show(t.embeds.length==0)=true by rw[beq_iff_eq];omega)
       clear hb3
       go_wp2_with fail
       go_meet
       exact⟨by rw[Ht.o,hb1,He.o,Hj.o];rfl,rfl⟩
      ·have b3:((t.embeds.length:Int)==0)=false:=by rw[beq_eq_false_iff_ne];omega
       have Hj:=zh (show(t.embeds.length==0)=false by rw[beq_eq_false_iff_ne];omega)
       clear hb3
       go_wp2_with fail
       go_meet
       exact⟨by rw[Ht.o,hb1,He.o,Hj.o];rfl,rfl⟩
     ·have b2:((t.names.length:Int)==0)=false:=by rw[beq_eq_false_iff_ne];omega
      have He:=zh (show(t.names.length==0)=false by rw[beq_eq_false_iff_ne];omega)
      clear Ho
      go_wp2_with fail
      go_meet
      exact⟨by rw[Ht.o,hb1,He.o];rfl,rfl⟩
   case rest=>
    obtain⟨rfl,hwc⟩:=hcut
    subst hwc
    have Ju:=H2
    by_cases hk1:kd=1
    ·subst hk1
     have H1:=HK.o
     cases hpl:Sx.plain t with
     | true=>
      by_cases hc:k=0
      ·have bhc:((k:Int)==0)=true:=by rw[beq_iff_eq];omega
       have Hhc:=zh (show(t.parts.length==0)=true by rw[beq_iff_eq];omega)
       clear hc
       clear H1
       have HS:=zh (show Sx.shape NM 1 t.name t.names t.embeds t.parts=true by rw[Sx.shape1,hpl,Hhc.o];rfl)
       go_wp2_with fail
       go_ret
       refine⟨?_,by first | exact H0.o | (rw[HL.o];exact H0.o)⟩
       rw[H2.o,H3.o,HS.o]
       rfl
      ·have bhc:((k:Int)==0)=false:=by rw[beq_eq_false_iff_ne];omega
       have Hhc:=zh (show(t.parts.length==0)=false by rw[beq_eq_false_iff_ne];omega)
       clear hc
       clear H1
       have HS:=zh (show Sx.shape NM 1 t.name t.names t.embeds t.parts=false by rw[Sx.shape1,hpl,Hhc.o];rfl)
       go_wp2_with fail
       go_ret
       refine⟨?_,by first | exact H0.o | (rw[HL.o];exact H0.o)⟩
       rw[H2.o,H3.o,HS.o]
       rfl
     | false=>
      clear H1
      have HS:=zh (show Sx.shape NM 1 t.name t.names t.embeds t.parts=false by rw[Sx.shape1,hpl];rfl)
      go_wp2_with fail
      go_ret
      refine⟨?_,by first | exact H0.o | (rw[HL.o];exact H0.o)⟩
      rw[H2.o,H3.o,HS.o]
      rfl
    by_cases hk2:kd=2
    ·subst hk2
     have H1:=HK.o
     cases hpl:Sx.plain t with
     | true=>
      by_cases hc:k=0
      ·have bhc:((k:Int)==0)=true:=by rw[beq_iff_eq];omega
       have Hhc:=zh (show(t.parts.length==0)=true by rw[beq_iff_eq];omega)
       clear hc
       clear H1
       have HS:=zh (show Sx.shape NM 2 t.name t.names t.embeds t.parts=true by rw[Sx.shape2,hpl,Hhc.o];rfl)
       go_wp2_with fail
       go_ret
       refine⟨?_,by first | exact H0.o | (rw[HL.o];exact H0.o)⟩
       rw[H2.o,H3.o,HS.o]
       rfl
      ·have bhc:((k:Int)==0)=false:=by rw[beq_eq_false_iff_ne];omega
       have Hhc:=zh (show(t.parts.length==0)=false by rw[beq_eq_false_iff_ne];omega)
       clear hc
       clear H1
       have HS:=zh (show Sx.shape NM 2 t.name t.names t.embeds t.parts=false by rw[Sx.shape2,hpl,Hhc.o];rfl)
       go_wp2_with fail
       go_ret
       refine⟨?_,by first | exact H0.o | (rw[HL.o];exact H0.o)⟩
       rw[H2.o,H3.o,HS.o]
       rfl
     | false=>
      clear H1
      have HS:=zh (show Sx.shape NM 2 t.name t.names t.embeds t.parts=false by rw[Sx.shape2,hpl];rfl)
      go_wp2_with fail
      go_ret
      refine⟨?_,by first | exact H0.o | (rw[HL.o];exact H0.o)⟩
      rw[H2.o,H3.o,HS.o]
      rfl
    by_cases hk3:kd=3
    ·subst hk3
     have H1:=HK.o
     cases hpl:Sx.plain t with
     | true=>
      by_cases hc:k=0
      ·have bhc:((k:Int)==0)=true:=by rw[beq_iff_eq];omega
       have Hhc:=zh (show(t.parts.length==0)=true by rw[beq_iff_eq];omega)
       clear hc
       clear H1
       have HS:=zh (show Sx.shape NM 3 t.name t.names t.embeds t.parts=true by rw[Sx.shape3,hpl,Hhc.o];rfl)
       go_wp2_with fail
       go_ret
       refine⟨?_,by first | exact H0.o | (rw[HL.o];exact H0.o)⟩
       rw[H2.o,H3.o,HS.o]
       rfl
      ·have bhc:((k:Int)==0)=false:=by rw[beq_eq_false_iff_ne];omega
       have Hhc:=zh (show(t.parts.length==0)=false by rw[beq_eq_false_iff_ne];omega)
       clear hc
       clear H1
       have HS:=zh (show Sx.shape NM 3 t.name t.names t.embeds t.parts=false by rw[Sx.shape3,hpl,Hhc.o];rfl)
       go_wp2_with fail
       go_ret
       refine⟨?_,by first | exact H0.o | (rw[HL.o];exact H0.o)⟩
       rw[H2.o,H3.o,HS.o]
       rfl
     | false=>
      clear H1
      have HS:=zh (show Sx.shape NM 3 t.name t.names t.embeds t.parts=false by rw[Sx.shape3,hpl];rfl)
      go_wp2_with fail
      go_ret
      refine⟨?_,by first | exact H0.o | (rw[HL.o];exact H0.o)⟩
      rw[H2.o,H3.o,HS.o]
      rfl
    by_cases hk5:kd=5
    ·subst hk5
     have H1:=HK.o
     cases hpl:Sx.plain t with
     | true=>
      by_cases hc:k=1
      ·have bhc:((k:Int)==1)=true:=by rw[beq_iff_eq];omega
       have Hhc:=zh (show(t.parts.length==1)=true by rw[beq_iff_eq];omega)
       clear hc
       clear H1
       have HS:=zh (show Sx.shape NM 5 t.name t.names t.embeds t.parts=true by rw[Sx.shape5,hpl,Hhc.o];rfl)
       go_wp2_with fail
       go_ret
       refine⟨?_,by first | exact H0.o | (rw[HL.o];exact H0.o)⟩
       rw[H2.o,H3.o,HS.o]
       rfl
      ·have bhc:((k:Int)==1)=false:=by rw[beq_eq_false_iff_ne];omega
       have Hhc:=zh (show(t.parts.length==1)=false by rw[beq_eq_false_iff_ne];omega)
       clear hc
       clear H1
       have HS:=zh (show Sx.shape NM 5 t.name t.names t.embeds t.parts=false by rw[Sx.shape5,hpl,Hhc.o];rfl)
       go_wp2_with fail
       go_ret
       refine⟨?_,by first | exact H0.o | (rw[HL.o];exact H0.o)⟩
       rw[H2.o,H3.o,HS.o]
       rfl
     | false=>
      clear H1
      have HS:=zh (show Sx.shape NM 5 t.name t.names t.embeds t.parts=false by rw[Sx.shape5,hpl];rfl)
      go_wp2_with fail
      go_ret
      refine⟨?_,by first | exact H0.o | (rw[HL.o];exact H0.o)⟩
      rw[H2.o,H3.o,HS.o]
      rfl
    by_cases hk7:kd=7
    ·subst hk7
     have H1:=HK.o
     cases hpl:Sx.plain t with
     | true=>
      by_cases hc:1≤k
      ·have bhc:decide ((1:Int)≤(k:Int))=true:=by rw[decide_eq_true_eq];omega
       have Hhc:=zh (show decide (1≤t.parts.length)=true by rw[decide_eq_true_eq];omega)
       clear hc
       clear H1
       have HS:=zh (show Sx.shape NM 7 t.name t.names t.embeds t.parts=true by rw[Sx.shape7,hpl,Hhc.o];rfl)
       go_wp2_with fail
       go_ret
       refine⟨?_,by first | exact H0.o | (rw[HL.o];exact H0.o)⟩
       rw[H2.o,H3.o,HS.o]
       rfl
      ·have bhc:decide ((1:Int)≤(k:Int))=false:=by rw[decide_eq_false_iff_not];omega
       have Hhc:=zh (show decide (1≤t.parts.length)=false by rw[decide_eq_false_iff_not];omega)
       clear hc
       clear H1
       have HS:=zh (show Sx.shape NM 7 t.name t.names t.embeds t.parts=false by rw[Sx.shape7,hpl,Hhc.o];rfl)
       go_wp2_with fail
       go_ret
       refine⟨?_,by first | exact H0.o | (rw[HL.o];exact H0.o)⟩
       rw[H2.o,H3.o,HS.o]
       rfl
     | false=>
      clear H1
      have HS:=zh (show Sx.shape NM 7 t.name t.names t.embeds t.parts=false by rw[Sx.shape7,hpl];rfl)
      go_wp2_with fail
      go_ret
      refine⟨?_,by first | exact H0.o | (rw[HL.o];exact H0.o)⟩
      rw[H2.o,H3.o,HS.o]
      rfl
    by_cases hk4:kd=4
    ·subst hk4
     have H1:=HK.o
     have hWs:=H0.o.size
     have Jc:=zrkZ t.name wc (HG.o.below (by rw[HL.o];exact H0.o)) (by omega) (by have:=Hm.o;omega)
     have Hl:=zh Jc
     clear Jc
     cases hg:NM.great t.name with
     | true=>
      rw[hg]at Hl
      by_cases h1:t.names.length=0
      ·have bh1:((t.names.length:Int)==0)=true:=by rw[beq_iff_eq];omega
       have Hh1:=zh (show(t.names.length==0)=true by rw[beq_iff_eq];omega)
       clear h1
       by_cases h2:t.embeds.length=0
       ·have bh2:((t.embeds.length:Int)==0)=true:=by rw[beq_iff_eq];omega
        have Hh2:=zh (show(t.embeds.length==0)=true by rw[beq_iff_eq];omega)
        clear h2
        by_cases h3:k=0
        ·have bh3:((k:Int)==0)=true:=by rw[beq_iff_eq];omega
         have Hh3:=zh (show(t.parts.length==0)=true by rw[beq_iff_eq];omega)
         clear h3
         clear H1
         have HS:=zh (show Sx.shape NM 4 t.name t.names t.embeds t.parts=true by rw[Sx.shape4,hg,Hh1.o,Hh2.o,Hh3.o];rfl)
         go_wp2_with (go_at_call 107;refine Hl.o.mono ?_;rintro e w5 ⟨rfl,H4⟩)
         go_ret
         refine⟨?_,by first | exact H0.o.trans (H4.mono (by omega)) | (rw[HL.o];exact H0.o.trans (H4.mono (by omega)))⟩
         rw[H2.o,H3.o,HS.o]
         rfl
        ·have bh3:((k:Int)==0)=false:=by rw[beq_eq_false_iff_ne];omega
         have Hh3:=zh (show(t.parts.length==0)=false by rw[beq_eq_false_iff_ne];omega)
         clear h3
         clear H1
         have HS:=zh (show Sx.shape NM 4 t.name t.names t.embeds t.parts=false by rw[Sx.shape4,hg,Hh1.o,Hh2.o,Hh3.o];rfl)
         go_wp2_with (go_at_call 107;refine Hl.o.mono ?_;rintro e w5 ⟨rfl,H4⟩)
         go_ret
         refine⟨?_,by first | exact H0.o.trans (H4.mono (by omega)) | (rw[HL.o];exact H0.o.trans (H4.mono (by omega)))⟩
         rw[H2.o,H3.o,HS.o]
         rfl
       ·have bh2:((t.embeds.length:Int)==0)=false:=by rw[beq_eq_false_iff_ne];omega
        have Hh2:=zh (show(t.embeds.length==0)=false by rw[beq_eq_false_iff_ne];omega)
        clear h2
        clear H1
        have HS:=zh (show Sx.shape NM 4 t.name t.names t.embeds t.parts=false by rw[Sx.shape4,hg,Hh1.o,Hh2.o];rfl)
        go_wp2_with (go_at_call 107;refine Hl.o.mono ?_;rintro e w5 ⟨rfl,H4⟩)
        go_ret
        refine⟨?_,by first | exact H0.o.trans (H4.mono (by omega)) | (rw[HL.o];exact H0.o.trans (H4.mono (by omega)))⟩
        rw[H2.o,H3.o,HS.o]
        rfl
      ·have bh1:((t.names.length:Int)==0)=false:=by rw[beq_eq_false_iff_ne];omega
       have Hh1:=zh (show(t.names.length==0)=false by rw[beq_eq_false_iff_ne];omega)
       clear h1
       clear H1
       have HS:=zh (show Sx.shape NM 4 t.name t.names t.embeds t.parts=false by rw[Sx.shape4,hg,Hh1.o];rfl)
       go_wp2_with (go_at_call 107;refine Hl.o.mono ?_;rintro e w5 ⟨rfl,H4⟩)
       go_ret
       refine⟨?_,by first | exact H0.o.trans (H4.mono (by omega)) | (rw[HL.o];exact H0.o.trans (H4.mono (by omega)))⟩
       rw[H2.o,H3.o,HS.o]
       rfl
     | false=>
      rw[hg]at Hl
      clear H1
      have HS:=zh (show Sx.shape NM 4 t.name t.names t.embeds t.parts=false by rw[Sx.shape4,hg];rfl)
      go_wp2_with (go_at_call 107;refine Hl.o.mono ?_;rintro e w5 ⟨rfl,H4⟩)
      go_ret
      refine⟨?_,by first | exact H0.o.trans (H4.mono (by omega)) | (rw[HL.o];exact H0.o.trans (H4.mono (by omega)))⟩
      rw[H2.o,H3.o,HS.o]
      rfl
    by_cases hk6:kd=6
    ·subst hk6
     have H1:=HK.o
     have hWs:=H0.o.size
     have Hp:=zfkZ t.names (.slice An t.names.length cn) wc (HG.o.below (by rw[HL.o];exact H0.o)) (by omega) (J7.o.below (by rw[HL.o];exact H0.o)) (by have:=Hm.o;omega) (fun s hs=>by have:=Sx.name_len hs;have:=Hm.o.1;omega)
     have Hd:=zh Hp
     clear Hp
     cases hn:t.name.isEmpty with
     | true=>
      by_cases h1:t.embeds.length=t.names.length
      ·have bh1:((t.embeds.length:Int)==(t.names.length:Int))=true:=by rw[beq_iff_eq];omega
       have Hh1:=zh (show(t.embeds.length==t.names.length)=true by rw[beq_iff_eq];omega)
       clear h1
       by_cases h2:k=t.names.length
       ·have bh2:((k:Int)==(t.names.length:Int))=true:=by rw[beq_iff_eq];omega
        have Hh2:=zh (show(t.parts.length==t.names.length)=true by rw[beq_iff_eq];omega)
        clear h2
        cases hu:Sx.apart NM t.names with
        | true=>
         rw[hu]at Hd
         clear H1
         have HS:=zh (show Sx.shape NM 6 t.name t.names t.embeds t.parts=true by rw[Sx.shape6,hn,Hh1.o,Hh2.o,hu];rfl)
         go_wp2_with (go_at_call 108;refine Hd.o.mono ?_;rintro e w5 ⟨rfl,H4⟩)
         go_ret
         refine⟨?_,by first | exact H0.o.trans (H4.mono (by omega)) | (rw[HL.o];exact H0.o.trans (H4.mono (by omega)))⟩
         rw[H2.o,H3.o,HS.o]
         rfl
        | false=>
         rw[hu]at Hd
         clear H1
         have HS:=zh (show Sx.shape NM 6 t.name t.names t.embeds t.parts=false by rw[Sx.shape6,hn,Hh1.o,Hh2.o,hu];rfl)
         go_wp2_with (go_at_call 108;refine Hd.o.mono ?_;rintro e w5 ⟨rfl,H4⟩)
         go_ret
         refine⟨?_,by first | exact H0.o.trans (H4.mono (by omega)) | (rw[HL.o];exact H0.o.trans (H4.mono (by omega)))⟩
         rw[H2.o,H3.o,HS.o]
         rfl
       ·have bh2:((k:Int)==(t.names.length:Int))=false:=by rw[beq_eq_false_iff_ne];omega
        have Hh2:=zh (show(t.parts.length==t.names.length)=false by rw[beq_eq_false_iff_ne];omega)
        clear h2
        clear H1
        have HS:=zh (show Sx.shape NM 6 t.name t.names t.embeds t.parts=false by rw[Sx.shape6,hn,Hh1.o,Hh2.o];rfl)
        go_wp2_with fail
        go_ret
        refine⟨?_,by first | exact H0.o | (rw[HL.o];exact H0.o)⟩
        rw[H2.o,H3.o,HS.o]
        rfl
      ·have bh1:((t.embeds.length:Int)==(t.names.length:Int))=false:=by rw[beq_eq_false_iff_ne];omega
       have Hh1:=zh (show(t.embeds.length==t.names.length)=false by rw[beq_eq_false_iff_ne];omega)
       clear h1
       clear H1
       have HS:=zh (show Sx.shape NM 6 t.name t.names t.embeds t.parts=false by rw[Sx.shape6,hn,Hh1.o];rfl)
       go_wp2_with fail
       go_ret
       refine⟨?_,by first | exact H0.o | (rw[HL.o];exact H0.o)⟩
       rw[H2.o,H3.o,HS.o]
       rfl
     | false=>
      clear H1
      have HS:=zh (show Sx.shape NM 6 t.name t.names t.embeds t.parts=false by rw[Sx.shape6,hn];rfl)
      go_wp2_with fail
      go_ret
      refine⟨?_,by first | exact H0.o | (rw[HL.o];exact H0.o)⟩
      rw[H2.o,H3.o,HS.o]
      rfl
    by_cases hk8:kd=8
    ·subst hk8
     go_wp2_with fail
     go_loopg [115] k (fun i v wq=>∃(m:Nat),i=k-m∧v=.int .i64 (m:Int)∧m≤k∧Below wc.heap.size wc wq∧(∀p∈t.parts.take m,p.kind=7))
     case atStart=>exact⟨0,rfl,rfl,Nat.zero_le _,Below.refl _ _,by simp⟩
     case round=>
      obtain⟨m2,hi2,rfl,hm2,hbq,hr2⟩:=hrel
      have Jk:=zh hi2
      have Jj:=zh hbq
      have J4:=zh hr2
      have m20:(0:Int)≤(m2:Int):=by omega
      have hWs:=H0.o.size
      have U0:=hbq.size
      have H5:=zh (show Below L W wr from H0.o.trans (hbq.mono (by omega)))
      have Hq:=zh ((hbq.block L Hw).trans Hb.o)
      clear x0 x1 x2 x3 x4 hi2 hbq hr2
      obtain⟨x0,x1,x2,x3,x4⟩:=zcZ Hq.o
      have Jt:=zaZ Hq.o
      by_cases hlt2:m2<k
      ·have J1:(m2:Int)<(k:Int):=by omega
       have Hg:m2<t.parts.length:=by have:=HK.o;omega
       obtain⟨g,off,An1,cn1,Ae1,ce1,Aq,cq,rfl,hty,hc5⟩:=HP.o.spot m2 Hg
       rw[HL.o]at hc5
       obtain⟨hg,c0,c1,c2,c3,c4⟩:=hc5 wr H5.o
       have Hk:=List.take_succ_eq_append_getElem Hg
       obtain⟨p,Hc⟩:=zE (t.parts[m2]'Hg)
       have H6:p∈t.parts:=by rw[←Hc];exact List.getElem_mem Hg
       rw[Hc]at c0 c1 c2 c3 c4 Hk
       obtain⟨kp,hkp⟩:=zE (p.kind)
       rw[hkp]at c0
       have Hi:=zh H6
       have Hz:=zh Hk
       have Jb:=zh hkp
       clear hty hc5 Hc H6 Hk hkp
       by_cases h7:kp=7
       ·have b7:(kp != 7)=false:=by simp[h7]
        have H7:=zh h7
        clear h7
        go_wp2_with fail
        go_roundg (k-(m2+1))
        case measure=>have:=Jk.o;omega
        case rel=>
         refine⟨m2+1,rfl,by simp,hlt2,Jj.o.trans (zeZ (World.grownBy_alloc wr _ none) |>.mono (by omega)),?_⟩
         rw[Hz.o]
         intro q hq
         rcases List.mem_append.1 hq with h | h
         ·exact J4.o q h
         ·rw[List.mem_singleton]at h;rw[h,Jb.o,H7.o]
       ·have b7:(kp != 7)=true:=by simp[h7]
        have HS:=zh (show Sx.shape NM 8 t.name t.names t.embeds t.parts=false by
         rw[Sx.shape8]
         have:(t.parts.all fun p=>p.kind==7)=false:=by
          rw[List.all_eq_false]
          exact⟨p,Hi.o,by simp[Jb.o,h7]⟩
         rw[this];rfl)
        clear h7
        go_wp2_with fail
        go_ret
        refine⟨?_,by first | exact H5.o.trans (zeZ (World.grownBy_alloc wr _ none) |>.mono (by omega)) | (rw[HL.o];exact H5.o.trans (zeZ (World.grownBy_alloc wr _ none) |>.mono (by omega)))⟩
        rw[H2.o,H3.o,HS.o]
        rfl
      ·have J1:¬(m2:Int)<(k:Int):=by omega
       have H8:=zh (show(t.parts.all fun p=>p.kind==7)=true by
        rw[List.all_eq_true]
        intro p hp
        have:=J4.o p (by rw[List.take_of_length_le (by have:=HK.o;omega)];exact hp)
        simp[this])
       have H1:=HK.o
       have Hp:=zfkZ t.names (.slice An t.names.length cn) wr (HG.o.below (by rw[HL.o];exact H5.o)) (by omega) (J7.o.below (by rw[HL.o];exact H5.o)) (by have:=Hm.o;omega) (fun s hs=>by have:=Sx.name_len hs;have:=Hm.o.1;omega)
       have Hd:=zh Hp
       clear Hp
       cases hn:t.name.isEmpty with
       | true=>
        by_cases h1:t.embeds.length=0
        ·have bh1:((t.embeds.length:Int)==0)=true:=by rw[beq_iff_eq];omega
         have Hh1:=zh (show(t.embeds.length==0)=true by rw[beq_iff_eq];omega)
         clear h1
         by_cases h2:k=t.names.length
         ·have bh2:((k:Int)==(t.names.length:Int))=true:=by rw[beq_iff_eq];omega
          have Hh2:=zh (show(t.parts.length==t.names.length)=true by rw[beq_iff_eq];omega)
          clear h2
          cases hu:Sx.apart NM t.names with
          | true=>
           rw[hu]at Hd
           clear H1
           have HS:=zh (show Sx.shape NM 8 t.name t.names t.embeds t.parts=true by rw[Sx.shape8,H8.o,hn,Hh1.o,Hh2.o,hu];rfl)
           go_wp2_with (go_at_call 108;refine Hd.o.mono ?_;rintro e w5 ⟨rfl,H4⟩)
           go_ret
           refine⟨?_,by first | exact H5.o.trans (H4.mono (by omega)) | (rw[HL.o];exact H5.o.trans (H4.mono (by omega)))⟩
           rw[H2.o,H3.o,HS.o]
           rfl
          | false=>
           rw[hu]at Hd
           clear H1
           have HS:=zh (show Sx.shape NM 8 t.name t.names t.embeds t.parts=false by rw[Sx.shape8,H8.o,hn,Hh1.o,Hh2.o,hu];rfl)
           go_wp2_with (go_at_call 108;refine Hd.o.mono ?_;rintro e w5 ⟨rfl,H4⟩)
           go_ret
           refine⟨?_,by first | exact H5.o.trans (H4.mono (by omega)) | (rw[HL.o];exact H5.o.trans (H4.mono (by omega)))⟩
           rw[H2.o,H3.o,HS.o]
           rfl
         ·have bh2:((k:Int)==(t.names.length:Int))=false:=by rw[beq_eq_false_iff_ne];omega
          have Hh2:=zh (show(t.parts.length==t.names.length)=false by rw[beq_eq_false_iff_ne];omega)
          clear h2
          clear H1
          have HS:=zh (show Sx.shape NM 8 t.name t.names t.embeds t.parts=false by rw[Sx.shape8,H8.o,hn,Hh1.o,Hh2.o];rfl)
          go_wp2_with fail
          go_ret
          refine⟨?_,by first | exact H5.o | (rw[HL.o];exact H5.o)⟩
          rw[H2.o,H3.o,HS.o]
          rfl
        ·have bh1:((t.embeds.length:Int)==0)=false:=by rw[beq_eq_false_iff_ne];omega
         have Hh1:=zh (show(t.embeds.length==0)=false by rw[beq_eq_false_iff_ne];omega)
         clear h1
         clear H1
         have HS:=zh (show Sx.shape NM 8 t.name t.names t.embeds t.parts=false by rw[Sx.shape8,H8.o,hn,Hh1.o];rfl)
         go_wp2_with fail
         go_ret
         refine⟨?_,by first | exact H5.o | (rw[HL.o];exact H5.o)⟩
         rw[H2.o,H3.o,HS.o]
         rfl
       | false=>
        clear H1
        have HS:=zh (show Sx.shape NM 8 t.name t.names t.embeds t.parts=false by rw[Sx.shape8,H8.o,hn];rfl)
        go_wp2_with fail
        go_ret
        refine⟨?_,by first | exact H5.o | (rw[HL.o];exact H5.o)⟩
        rw[H2.o,H3.o,HS.o]
        rfl
    have e1:(kd==1)=false:=by simp[hk1]
    have e2:(kd==2)=false:=by simp[hk2]
    have e3:(kd==3)=false:=by simp[hk3]
    have e4:(kd==4)=false:=by simp[hk4]
    have e5:(kd==5)=false:=by simp[hk5]
    have e6:(kd==6)=false:=by simp[hk6]
    have e7:(kd==7)=false:=by simp[hk7]
    have e8:(kd==8)=false:=by simp[hk8]
    have HS:=zh (show Sx.shape NM kd t.name t.names t.embeds t.parts=false by unfold Sx.shape;rw[if_neg (by omega),if_neg hk4,if_neg hk5,if_neg hk7,if_neg hk6,if_neg hk8])
    clear hk1 hk2 hk3 hk4 hk5 hk6 hk7 hk8
    go_wp2_with fail
    go_ret
    refine⟨?_,by first | exact H0.o | (rw[HL.o];exact H0.o)⟩
    rw[H2.o,H3.o,HS.o]
    rfl
theorem zeoZ:∀d:Nat,d≤64→RightOk d
 | 0,_=>zojZ
 | d+1,h=>zokZ d h (zeoZ d (by omega))
theorem ztwZ:isTok 1 []=false:=by kernel_rfl
theorem ztxZ:isTok 2 []=false:=by kernel_rfl
theorem NM.ok:Sx.NamesOk NM:=⟨fun s h e=>by subst e;exact absurd (ztwZ.symm.trans h) (by simp),fun s h e=>by subst e;exact absurd (ztxZ.symm.trans h) (by simp)⟩
def Sx.said (right:Bool) (l:List Lx.Bytes):Lx.Bytes×Nat:=if right then Sx.told true (Sx.puts ⟨[],0⟩ l)else([],1)
theorem Wrote.fresh {W0 w:World} {b:Nat} (hB:W0.heap.size≤b) (hb:w.heap[b]? =some (.cells #[.pointer none,.slice none 0 0,.int .i64 0] 104 (0,0))) (h:Below W0.heap.size W0 w):Wrote W0 b 0 [] w:=
 ⟨⟨hB,none,.slice none 0 0,hb,.inl rfl,World.ownsRow_nil _ _ _ _,fun _=>rfl⟩,h,by simp,Nat.le_refl _⟩
theorem zdnZ {W0 w:World} {b c:Nat} {l:List Lx.Bytes} (h:Wrote W0 b c l w) (hc:c≤1000000000) (r:Bool) (hr:r=false→l=[]) :
  Calls Tryz.prog 60 #[.pointer (some ⟨b,0,none⟩),.bool r] w fun e w'=>
   e=.returned (.tuple #[.string ⟨(Sx.said r l).1.toArray⟩,.int .i64 ((Sx.said r l).2:Nat)])∧Below W0.heap.size W0 w':=by
 have H0:=h.cnt
 refine(ztnZ W0.heap.size b (Sx.puts ⟨[],0⟩ l) r w h.wri (Sx.puts_len l _ (by simp) h.good) (by rw[Sx.puts_n];simp;omega)).mono ?_
 rintro e w' ⟨he,hb⟩
 refine⟨?_,h.below.trans hb⟩
 rw[he]
 cases r with
 | true=>rfl
 | false=>rfl
theorem zfyZ (t:Sx.Ty) (v:Value) (W:World) (hG:GS W) (hN:NG≤W.heap.size) (ht:IsTy W v t) (hsz:Sx.size t≤1000000) :
  Calls Tryz.prog 14 #[v] W fun e W'=>e=.returned (.tuple #[.string ⟨(Sx.said (Sx.rightT NM 64 t) (Sx.typ t)).1.toArray⟩,.int .i64 ((Sx.said (Sx.rightT NM 64 t) (Sx.typ t)).2:Nat)])∧Below W.heap.size W W':=by
 have He:∀X,Below W.heap.size W X→Calls Tryz.prog 58 #[v,.int .i64 64] X fun e W'=>e=.returned (.bool (Sx.rightT NM 64 t))∧Below X.heap.size X W':=fun X hb=>zeoZ 64 (by omega) t v X (hG.below hb) (Nat.le_trans hN hb.size) (ht.below hb) hsz
 have H6:=fun b w (hr:Sx.rightT NM 64 t=true) (h:Wrote W b 0 [] w)=>(zdwZ NM NM.ok W b _ t (Nat.le_refl _)).1 64 v 0 [] w hr ht h (by omega)
 obtain⟨An,cn,Ae,ce,Ap,cp,rfl,hnm,hem,hp⟩:=ht.agg
 obtain⟨L,hL⟩:=zE (W.heap.size)
 obtain⟨w2,hw2⟩:=zE (W.alloc (.cells #[.int .i64 t.kind,.string ⟨t.name.toArray⟩,.slice An t.names.length cn,.slice Ae t.embeds.length ce,.slice Ap t.parts.length cp] 26))
 have H5:w2.heap[L]? =some (.cells #[.int .i64 t.kind,.string ⟨t.name.toArray⟩,.slice An t.names.length cn,.slice Ae t.embeds.length ce,.slice Ap t.parts.length cp] 26 (0,0)):=by rw[←hw2,←hL];exact heap_alloc_new W _
 have Ha:Below W.heap.size W w2:=by rw[←hw2];exact zeZ (World.grownBy_alloc W _ none)
 obtain⟨K,hK⟩:=zE (w2.heap.size)
 have hLK:L≤K∧L<K:=by rw[←hK,←hw2,←hL];simp
 obtain⟨w3,hw3⟩:=zE (w2.alloc (.cells #[.pointer none,.slice none 0 0,.int .i64 0] 104))
 have H0:w3.heap[K]? =some (.cells #[.pointer none,.slice none 0 0,.int .i64 0] 104 (0,0)):=by rw[←hw3,←hK];exact heap_alloc_new w2 _
 have Hb:Below w2.heap.size w2 w3:=by rw[←hw3];exact zeZ (World.grownBy_alloc w2 _ none)
 have H7:Below W.heap.size W w3:=Ha.trans (Hb.mono Ha.size)
 have H1:=(Hb.block L (by omega)).trans H5
 have Hd:K<w3.heap.size:=zaZ H0
 obtain⟨x0,x1,x2,x3,x4⟩:=zcZ H1
 have Hg:=zaZ H1
 have Hc:=zh (show ∀w4,Below w3.heap.size w3 w4→Wrote W K 0 [] w4∧K<w4.heap.size∧w4.heap[L]? =w3.heap[L]? from fun w4 H2=>
  ⟨Wrote.fresh (by omega) ((H2.block K Hd).trans H0) (H7.trans (H2.mono H7.size)),Nat.lt_of_lt_of_le Hd H2.size,H2.block L Hg⟩)
 have H8:=zh (He w3 H7)
 have H9:=zh H6
 have Hf:=zh H0
 have H4:=zh H1
 have Hm:=zh H7
 have HL:=zh hL
 have Hk:=zh hLK
 have Hj:=zh hsz
 clear hLK He H6 ht hnm hem hp H5 Ha Hb H7 H1 H0 hG hsz
 cases hr:Sx.rightT NM 64 t with
 | false=>
  rw[hr]at H8
  have HR:=zh hr
  clear hr
  go_enter Tryz.func14, Tryz.ntmps14
  go_wp2_with (first
   | (go_at_call 58;refine H8.o.mono ?_;rintro e w4 ⟨rfl,H2⟩;obtain⟨hW,hl4,-⟩:=Hc.o w4 H2;have hW4:=zh hW;clear H2 hW)
   | (go_at_call 60;refine(zdnZ hW4.o (by omega) false (fun _=>rfl)).mono ?_;rintro e w5 ⟨rfl,Hh⟩))
  refine bodyPost_ret (results_tmp2 rfl _ _ _) rfl ?_
  exact⟨rfl,Hh⟩
 | true=>
  rw[hr]at H8
  have HR:=zh hr
  clear hr
  go_enter Tryz.func14, Tryz.ntmps14
  go_wp2_with (first
   | (go_at_call 58;refine H8.o.mono ?_;rintro e w4 ⟨rfl,H2⟩;obtain⟨hW,hl4,hbl4⟩:=Hc.o w4 H2;have hW4:=zh hW;have H3:=hbl4.trans H4.o;clear H2 hW hbl4 x0 x1 x2 x3 x4;obtain⟨x0,x1,x2,x3,x4⟩:=zcZ H3;clear H3)
   | (go_at_call 59;refine(H9.o (K) w4 HR.o hW4.o).mono ?_;rintro e w5 ⟨rfl,h5,-⟩;have Hl:=h5.lt;have hW5:=zh h5;clear h5)
   | (go_at_call 60;refine(zdnZ hW5.o (by have:=Hj.o;omega) true (fun h=>by cases h)).mono ?_;rintro e w6 ⟨rfl,Hi⟩))
  refine bodyPost_ret (results_tmp2 rfl _ _ _) rfl ?_
  exact⟨rfl,Hi⟩
structure Live (W0:World) (b:Nat) (l:List Lx.Bytes) (w0 w:World) (L:Nat) (cs:Array Value) (t:TypeId) (L2:Nat) (cs2:Array Value) (t2:TypeId):Prop where
 wr:Wrote W0 b l.length l w
 kp:KeepW w0 w
 b1:w.heap[L]? =some (.cells cs t (0,0))
 b2:w.heap[L2]? =some (.cells cs2 t2 (0,0))
def Other (t:TypeId):Prop:=t≠ 5 ∧t≠ 104
theorem Wrote.tight {W0 w:World} {b c:Nat} {l:List Lx.Bytes} (h:Wrote W0 b c l w):Wrote W0 b l.length l w:=⟨h.wri,h.below,h.good,Nat.le_refl _⟩
theorem Live.go {W0 w0 w w':World} {b L L2 c:Nat} {l m:List Lx.Bytes} {cs cs2:Array Value} {t t2:TypeId} (h:Live W0 b l w0 w L cs t L2 cs2 t2) (ht:Other t) (ht2:Other t2) (hW:Wrote W0 b c m w') (hk:KeepW w w'):Live W0 b m w0 w' L cs t L2 cs2 t2:=
 ⟨hW.tight,h.kp.trans hk,hk _ _ _ _ h.b1 ht.1 ht.2,hk _ _ _ _ h.b2 ht2.1 ht2.2⟩
theorem Live.drew {W0 w0 w:World} {b L L2:Nat} {l:List Lx.Bytes} {cs cs2:Array Value} {t t2:TypeId} (h:Live W0 b l w0 w L cs t L2 cs2 t2):Live W0 b l w0 w.drew L cs t L2 cs2 t2:=
 ⟨h.wr.drew,h.kp.trans (KeepW.drew w),h.b1,h.b2⟩
theorem Live.grow {W0 w0 w w':World} {b L L2:Nat} {l:List Lx.Bytes} {cs cs2:Array Value} {t t2:TypeId} (h:Live W0 b l w0 w L cs t L2 cs2 t2) (hg:w.grownBy w' none):Live W0 b l w0 w' L cs t L2 cs2 t2:=
 ⟨h.wr.grown hg,h.kp.trans (KeepW.grown hg (fun j e=>nomatch e)),(hg.block _ (zaZ h.b1) (fun e=>nomatch e)).trans h.b1,(hg.block _ (zaZ h.b2) (fun e=>nomatch e)).trans h.b2⟩
theorem Live.box {W0 w0 w:World} {b L L2:Nat} {l:List Lx.Bytes} {cs cs2:Array Value} {t t2:TypeId} (h:Live W0 b l w0 w L cs t L2 cs2 t2) (cs3:Array Value) (t3:TypeId) {w':World} (e:w.alloc (.cells cs3 t3)=w'):Live W0 b l w0 w' L cs t w.heap.size cs3 t3:=by
 subst e
 have hg:=World.grownBy_alloc w (.cells cs3 t3) none
 exact⟨h.wr.grown hg,h.kp.trans (KeepW.alloc w _),(hg.block _ (zaZ h.b1) (fun e=>nomatch e)).trans h.b1,heap_alloc_new w _⟩
theorem Live.first {W0 w0:World} {b:Nat} {l:List Lx.Bytes} (h:Wrote W0 b l.length l w0) (cs:Array Value) (t:TypeId) {w':World} (e:w0.alloc (.cells cs t)=w'):Live W0 b l w0 w' w0.heap.size cs t w0.heap.size cs t:=by
 subst e
 have hg:=World.grownBy_alloc w0 (.cells cs t) none
 exact⟨h.grown hg,KeepW.alloc w0 _,heap_alloc_new w0 _,heap_alloc_new w0 _⟩
theorem Live.lt {W0 w0 w:World} {b L L2:Nat} {l:List Lx.Bytes} {cs cs2:Array Value} {t t2:TypeId} (h:Live W0 b l w0 w L cs t L2 cs2 t2):L<w.heap.size∧L2<w.heap.size∧b<w.heap.size:=⟨zaZ h.b1,zaZ h.b2,h.wr.lt⟩
theorem Live.lput1 {W0 w0 w:World} {b L L2:Nat} {l:List Lx.Bytes} {cs cs2:Array Value} {t t2:TypeId} (h:Live W0 b l w0 w L cs t L2 cs2 t2) (s:Lx.Bytes) (hs:s≠[]∧s.length≤1000000000) (hn:l.length+1≤1000000000) :
  Calls Tryz.prog 100 #[.pointer (some ⟨b,0,none⟩),.slice (some ⟨w.heap.size,0,none⟩) 1 1] (w.alloc (.cells #[.string ⟨s.toArray⟩] 9)) fun e w'=>
   e=.returned (.tuple #[])∧Wrote W0 b (l.length+1) (l++[s]) w'∧KeepW w w':=put1 h.wr hs hn
theorem Live.lput2 {W0 w0 w:World} {b L L2:Nat} {l:List Lx.Bytes} {cs cs2:Array Value} {t t2:TypeId} (h:Live W0 b l w0 w L cs t L2 cs2 t2) (s u:Lx.Bytes) (hs:s≠[]∧s.length≤1000000000) (hu:u≠[]∧u.length≤1000000000) (hn:l.length+2≤1000000000) :
  Calls Tryz.prog 100 #[.pointer (some ⟨b,0,none⟩),.slice (some ⟨w.heap.size,0,none⟩) 2 2] (w.alloc (.cells #[.string ⟨s.toArray⟩,.string ⟨u.toArray⟩] 9)) fun e w'=>
   e=.returned (.tuple #[])∧Wrote W0 b (l.length+2) (l++[s,u]) w'∧KeepW w w':=put2 h.wr hs hu hn
theorem oEx:Other 39 :=⟨by decide,by decide⟩
theorem zbZ {w:World} {g t:Nat} {a b c d e f k:Value} (h:w.heap[g]? =some (.cells #[a,b,c,d,e,f,k] t (0,0))) :
  w.cell? ⟨g,0,none⟩=some a∧w.cell? ⟨g,1,none⟩=some b∧w.cell? ⟨g,2,none⟩=some c∧w.cell? ⟨g,3,none⟩=some d∧w.cell? ⟨g,4,none⟩=some e∧w.cell? ⟨g,5,none⟩=some f∧w.cell? ⟨g,6,none⟩=some k:=
 ⟨zdZ h 0,zdZ h 1,zdZ h 2,zdZ h 3,zdZ h 4,zdZ h 5,zdZ h 6⟩
/-! ### plain -/
mutual
def Sx.sizeX:Sx.Ex→Nat
 | .mk _ _ _ s t ns ps=>1+s.length+ns.length+(ns.map List.length).sum+Sx.sizeL t+Sx.sizeXs ps
def Sx.sizeXs:List Sx.Ex→Nat
 | []=>0
 | x::l=>Sx.sizeX x+Sx.sizeXs l
end
theorem Sx.sizeX_parts (x:Sx.Ex):Sx.sizeX x=1+x.s.length+x.names.length+(x.names.map List.length).sum+Sx.sizeL x.t+Sx.sizeXs x.parts:=by cases x;rw[Sx.sizeX];rfl
theorem Sx.sizeX_pos (x:Sx.Ex):1≤Sx.sizeX x:=by rw[Sx.sizeX_parts];omega
theorem Sx.sizeX_mem:∀ {l:List Sx.Ex} {x:Sx.Ex},x∈l→Sx.sizeX x≤Sx.sizeXs l
 | u::l,t,h=>by
  rw[Sx.sizeXs]
  rcases List.mem_cons.1 h with rfl | h
  ·omega
  ·have:=Sx.sizeX_mem h;omega
theorem Sx.length_sizeXs:∀(l:List Sx.Ex),l.length≤Sx.sizeXs l
 | []=>by simp[Sx.sizeXs]
 | t::l=>by
  rw[Sx.sizeXs,List.length_cons]
  have:=Sx.length_sizeXs l
  have:=Sx.sizeX_pos t
  omega
def Sx.okX (x:Sx.Ex):Prop:=∃d,Sx.rightX NM d x=true
theorem Sx.rightXs_mem {N:Sx.Names} : ∀ {l:List Sx.Ex} {d0 d:Nat},Sx.rightXs N d0 d l=true→∀p∈l,Sx.rightX N d0 p=true∨Sx.rightX N d p=true
 | x::l,d0,d,h,p,hp=>by
  rw[Sx.rightXs,Bool.and_eq_true]at h
  rcases List.mem_cons.1 hp with rfl | hp
  ·exact .inl h.1
  ·rcases Sx.rightXs_mem h.2 p hp with h | h
   ·exact .inr h
   ·exact .inr h
theorem Sx.okX.shape {x:Sx.Ex} (h:Sx.okX x):Sx.shapeX NM x.kind x.n x.s x.t x.names x.parts.length=true∧∀p∈x.parts,Sx.okX p:=by
 obtain⟨d,h⟩:=h
 cases x with
 | mk pos k n s t ns ps=>
  cases d with
  | zero=>simp[Sx.rightX]at h
  | succ d=>
   rw[Sx.rightX,Bool.and_eq_true]at h
   refine⟨h.1,fun p hp=>?_⟩
   rcases Sx.rightXs_mem h.2 p hp with h | h
   ·exact⟨_,h⟩
   ·exact⟨_,h⟩
def SY:Sx.Says:=⟨fun n=>Lib.decDigits n.toNat,Lx.quote⟩
theorem Sx.expr_eq (x:Sx.Ex):Sx.expr SY x=
  (if x.kind=1 then [SY.digits x.n]
  else if x.kind=2 then [SY.quote x.s]
  else if x.kind=3 then [if x.n=1 then [116,114,117,101]else [102,97,108,115,101]]
  else if x.kind=4 then [x.s]
  else if x.kind=5 then [[115,101,108,102]]
  else if x.kind=6 then [110,105,108]::Sx.typL x.t
  else if x.kind=7∨x.kind=8 then(if x.kind=8 then [[110,101,119]]else [])++[x.s,[123]]++Sx.record SY 0 x.names x.parts++[[125]]
  else if x.kind=9 then Sx.first SY 7 x.parts++[[46],x.s]
  else if x.kind=10 then Sx.first SY 7 x.parts++[[46],x.s]++Sx.args SY x.parts
  else if x.kind=11 then Sx.applied SY x.parts++Sx.args SY x.parts
  else if x.kind=12 then Sx.first SY 7 x.parts++[[116,111]]++Sx.typL x.t
  else if x.kind=13∨x.kind=14 then(if x.kind=13 then [45]else [110,111,116])::Sx.first SY 6 x.parts
  else Sx.first SY (if Sx.level x.kind=3 then 4 else Sx.level x.kind) x.parts++[Sx.sign x.kind]++Sx.second SY (Sx.level x.kind+1) x.parts):=by
 cases x;rw[Sx.expr];rfl
def Sx.within (x:Sx.Ex):List Lx.Bytes:=[[40]]++Sx.expr SY x++[[41]]
def Sx.part (lv:Nat) (x:Sx.Ex):List Lx.Bytes:=if Sx.level x.kind<lv then Sx.within x else Sx.expr SY x
theorem Sx.first_head:∀ {l:List Sx.Ex} (lv:Nat) (h:0<l.length),Sx.first SY lv l=Sx.part lv (l[0]'h)
 | x::l,lv,h=>by rw[Sx.first];rfl
theorem Sx.second_head:∀ {l:List Sx.Ex} (lv:Nat) (h:1<l.length),Sx.second SY lv l=Sx.part lv (l[1]'h)
 | x::y::l,lv,h=>by rw[Sx.second];exact Sx.first_head lv (by simp)
theorem Sx.applied_head:∀ {l:List Sx.Ex} (h:0<l.length),Sx.applied SY l=if(l[0]'h).kind=9 then Sx.within (l[0]'h)else Sx.part 7 (l[0]'h)
 | x::l,h=>by
  rw[Sx.applied]
  simp only[List.getElem_cons_zero]
  unfold Sx.part
  by_cases h9:x.kind=9
  ·simp[h9,Sx.within]
  ·simp[h9,Sx.within]
def Sx.listed (l:List Sx.Ex):List Lx.Bytes:=[[40]]++Sx.list SY 0 l++[[41]]
theorem Sx.args_tail:∀ {l:List Sx.Ex} (h:0<l.length),Sx.args SY l=Sx.listed l.tail
 | x::l,h=>by rw[Sx.args];rfl
end Go.Proofs.YtdncljdfmdgdaaaGreatDoor
