/-
  coilkeep.bools.
-/
import Derived.Test.YtdncljdfmdgdaaaGreatDoorM1
import Derived.Test.YtdncljdfmdgdaaaGreatDoorM17
import Derived.Test.YtdncljdfmdgdaaaGreatDoorM8
import Derived.Test.YtdncljdfmdgdaaaGreatDoorM11
import Derived.Test.YtdncljdfmdgdaaaGreatDoorM14
set_option linter.unusedSimpArgs false
set_option linter.unusedVariables false
set_option maxRecDepth 100000
set_option maxHeartbeats 4000000
namespace Go.Proofs.YtdncljdfmdgdaaaGreatDoor
open Go.RowKit Go.Shelf
theorem zoiZ (ts us:List Bool) (v u:Value) (w:World) (hv:BoolRow w v ts) (hu:BoolRow w u us) (hl:ts.length≤1000000000) (hl2:us.length≤1000000000) :
  Calls Tryz.prog 71 #[v,u] w fun e w'=>e=.returned (.bool (decide (ts=us)))∧Below w.heap.size w w':=by
 obtain⟨A1,c1,rfl,hv'⟩:=hv
 obtain⟨A2,c2,rfl,hu'⟩:=hu
 have HA:=zh (show BoolRow w (.slice A1 ts.length c1) ts from⟨A1,c1,rfl,hv'⟩)
 have HB:=zh (show BoolRow w (.slice A2 us.length c2) us from⟨A2,c2,rfl,hu'⟩)
 clear hv' hu'
 by_cases hlen:ts.length=us.length
 ·have hb:((ts.length:Int) != (us.length:Int))=false:=by simp[hlen]
  have HL:=zh hlen
  clear hlen
  go_enter Tryz.func71, Tryz.ntmps71
  go_wp2
  go_loopg [5] (ts.length) (fun n v wr=>∃(m:Nat),n=ts.length-m∧v=.int .i64 (m:Int)∧m≤ts.length∧ts.take m=us.take m∧Below w.heap.size w wr)
  case atStart=>exact⟨0,rfl,rfl,Nat.zero_le _,by simp,Below.refl _ _⟩
  case round=>
   obtain⟨m,hn,rfl,hm,he,hbl⟩:=hrel
   have HN:=zh hn
   have HE:=zh he
   clear hn he
   by_cases hlt:m<ts.length
   ·have H0:m<us.length:=by rw[←HL.o];exact hlt
    have hi:(m:Int)<(ts.length:Int):=by omega
    have H3:(m:Int)<(us.length:Int):=by omega
    have H4:(0:Int)≤(m:Int):=by omega
    have H5:(m:Int)≤1000000000:=by omega
    obtain⟨g,off,rfl,hgl,t0⟩:=HA.o.cellAt hbl m hlt
    obtain⟨g2,off2,rfl,hgl2,u0⟩:=HB.o.cellAt hbl m H0
    obtain⟨t,ht⟩:=zE (ts[m]'hlt)
    obtain⟨x,hx⟩:=zE (us[m]'H0)
    rw[ht]at t0
    rw[hx]at u0
    have HT:=zh ht
    have HX:=zh hx
    clear ht hx
    cases hq:(t==x)with
    | true=>
     have H1:t=x:=by simpa using hq
     have H2:(t != x)=false:=by simp[H1]
     have HS:=zh (zduZ HE.o hlt H0 (by rw[HT.o,HX.o,H1]))
     clear H1
     go_wp2
     go_quiet (fail)
     go_wp2
     go_roundg (ts.length-(m+1))
     case measure=>have:=HN.o;omega
     case rel=>exact⟨m+1,rfl,by simp,hlt,HS.o,Below.drewN hbl _⟩
    | false=>
     have H1:t≠x:=by simpa using hq
     have H2:(t != x)=true:=by simp[bne,hq]
     have HS:=zh (show decide (ts=us)=false by
      rw[decide_eq_false_iff_not]
      rintro rfl
      exact H1 (HT.o.symm.trans HX.o))
     clear H1
     go_wp2
     go_quiet (fail)
     go_wp2
     go_ret
     rw[HS.o]
     exact⟨rfl,Below.drewN hbl _⟩
   ·have hi:¬(m:Int)<(ts.length:Int):=by omega
    have HS:=zh (show decide (ts=us)=true by
     rw[decide_eq_true_eq]
     have h1:=HE.o
     rwa [List.take_of_length_le (by omega),List.take_of_length_le (by have:=HL.o;omega)]at h1)
    go_wp2
    go_ret
    rw[HS.o]
    exact⟨rfl,hbl⟩
 ·have hb:((ts.length:Int) != (us.length:Int))=true:=by simp;omega
  have HS:=zh (show decide (ts=us)=false by
   rw[decide_eq_false_iff_not]
   rintro rfl
   exact hlen rfl)
  clear hlen
  go_enter Tryz.func71, Tryz.ntmps71
  go_wp2
  go_ret
  rw[HS.o]
  exact⟨rfl,Below.refl _ _⟩
end Go.Proofs.YtdncljdfmdgdaaaGreatDoor
namespace Go.Proofs.YtdncljdfmdgdaaaGreatDoor
open Go.RowKit Go.Shelf Go.WideMaps
def isTok (k:Int) (s:Lx.Bytes):Bool:=(Lx.join [⟨0,k,s,0⟩]).2 != 1
def NM:Sx.Names:=⟨isTok 1,isTok 2,isTok 5⟩
theorem synIs (k:Int) (s:Lx.Bytes) (w:World) (hG:GS w) (hN:NG≤w.heap.size) (hs:s.length≤1000000000) :
  Calls Tryz.prog 133 #[.int .i64 k,.string ⟨s.toArray⟩] w fun e w'=>e=.returned (.bool (isTok k s))∧Below w.heap.size w w':=by
 obtain⟨w2,hw2⟩:=zE (w.alloc (.cells #[.int .i64 0,.int .i64 k,.string ⟨s.toArray⟩,.int .i64 0] 133))
 have hg:Below w.heap.size w w2:=by rw[←hw2];exact zeZ (World.grownBy_alloc w _ none)
 have H0:ToksIn w2 (.slice (some ⟨w.heap.size,0,none⟩) 1 1) [⟨0,k,s,0⟩]:=.inr ⟨w.heap.size,1,#[.int .i64 0,.int .i64 k,.string ⟨s.toArray⟩,.int .i64 0],(0,0),rfl,by rw[←hw2];exact heap_alloc_new w _,rfl⟩
 have hj:=ztiZ [⟨0,k,s,0⟩] _ w2 (hG.below hg) (Nat.le_trans hN hg.size) H0 (by simp) (by intro t ht;simp at ht;subst ht;exact⟨hs,by simp,by simp⟩)
 obtain⟨r,hr⟩:=zE (Lx.join [⟨0,k,s,0⟩])
 have hb:isTok k s=(r.2 != 1):=by unfold isTok;rw[hr]
 rw[hr]at hj
 rw[hb]
 have hc:((r.2:Int) != 1)=(r.2 != 1):=by rw[Bool.eq_iff_iff];simp;omega
 have HC:=zh hc
 clear hc
 have HG:=zh hg
 have HJ:=zh hj
 clear hr hb H0 hj hg
 go_enter Tryz.func133, Tryz.ntmps133
 go_wp2_with (go_at_call 48;refine HJ.o.mono ?_;rintro e w3 ⟨rfl,h3⟩)
 go_ret
 rw[←HC.o]
 exact⟨rfl,HG.o.trans (h3.mono HG.o.size)⟩
theorem zmfZ (s:Lx.Bytes) (w:World) (hG:GS w) (hN:NG≤w.heap.size) (hs:s.length≤1000000000) :
  Calls Tryz.prog 132 #[.string ⟨s.toArray⟩] w fun e w'=>e=.returned (.bool (NM.small s))∧Below w.heap.size w w':=by
 have hi:=synIs 1 s w hG hN hs
 have HI:=zh hi
 clear hi
 go_enter Tryz.func132, Tryz.ntmps132
 go_wp2_with (go_at_call 133;refine HI.o.mono ?_;rintro e w3 ⟨rfl,h3⟩)
 go_ret
 exact⟨rfl,h3⟩
theorem zrkZ (s:Lx.Bytes) (w:World) (hG:GS w) (hN:NG≤w.heap.size) (hs:s.length≤1000000000) :
  Calls Tryz.prog 107 #[.string ⟨s.toArray⟩] w fun e w'=>e=.returned (.bool (NM.great s))∧Below w.heap.size w w':=by
 have hi:=synIs 2 s w hG hN hs
 have HI:=zh hi
 clear hi
 go_enter Tryz.func107, Tryz.ntmps107
 go_wp2_with (go_at_call 133;refine HI.o.mono ?_;rintro e w3 ⟨rfl,h3⟩)
 go_ret
 exact⟨rfl,h3⟩
theorem zrlZ (s:Lx.Bytes) (w:World) (hG:GS w) (hN:NG≤w.heap.size) (hs:s.length≤1000000000) :
  Calls Tryz.prog 134 #[.string ⟨s.toArray⟩] w fun e w'=>e=.returned (.bool (NM.said s))∧Below w.heap.size w w':=by
 have hi:=synIs 5 s w hG hN hs
 have HI:=zh hi
 clear hi
 go_enter Tryz.func134, Tryz.ntmps134
 go_wp2_with (go_at_call 133;refine HI.o.mono ?_;rintro e w3 ⟨rfl,h3⟩)
 go_ret
 exact⟨rfl,h3⟩
theorem Sx.apart_iff (N:Sx.Names):∀l:List Lx.Bytes,Sx.apart N l=true↔(∀s∈l,N.small s=true)∧l.Nodup
 | []=>by simp[Sx.apart]
 | s::l=>by
  rw[Sx.apart,Bool.and_eq_true,Bool.and_eq_true,Sx.apart_iff N l,List.nodup_cons]
  simp only[Bool.not_eq_true',List.contains_eq_mem,decide_eq_false_iff_not,List.mem_cons,forall_eq_or_imp]
  constructor
  ·rintro⟨a,b,c,d⟩;exact⟨⟨a,c⟩,b,d⟩
  ·rintro⟨⟨a,c⟩,b,d⟩;exact⟨a,b,c,d⟩
def Counts (b:Nat) (l:List Lx.Bytes) (w:World):Prop:=∃n,∃D:DataW Unit,n≤l.length∧w.ownsMap Tryz.prog 9 (plainElem Tryz.prog 3) b n D∧Maps.IsMap D∧∀s,D.atKey (.string s) (.lit (.int .i64 0))=.lit (.int .i64 (l.count s:Nat))
theorem Counts.kept {b:Nat} {l:List Lx.Bytes} {w w':World} (h:Counts b l w) (hg:w.grownBy w' none):Counts b l w':=by
 obtain⟨n,D,hn,hm,hD,hat⟩:=h
 exact⟨n,D,hn,hm.kept hg (by simp),hD,hat⟩
theorem Counts.below {b:Nat} {l:List Lx.Bytes} {w w':World} (h:Counts b l w) (hg:Below w.heap.size w w'):Counts b l w':=h.kept (zbfZ hg)
theorem Counts.look {b:Nat} {l:List Lx.Bytes} {w:World} (h:Counts b l w) (s:Lx.Bytes) (hs:s.length≤140737488351232) :
  (Instr.lookup 107 (.map (some b)) (.string ⟨s.toArray⟩) false).run Tryz.prog w=.ok (.int .i64 (l.count s:Nat)) w:=by
 obtain⟨n,D,hn,hm,hD,hat⟩:=h
 have H0:keyOf Tryz.prog 9 (.string ⟨s.toArray⟩)=some (.string s):=by
  simpa using keyOf_string_mk (P:= Tryz.prog) Tryz.underlying9 (s:=⟨s.toArray⟩) (by simp[ByteArray.size,maxLen];omega)
 obtain⟨c,hlk,hc,wc⟩:=hm.lookup_int (Maps.string_keyed (P:= Tryz.prog) Tryz.underlying9) Tryz.underlying107 Tryz.underlying3 (zhwZ _) H0
 rw[hat s]at hc
 injection hc with hc
 injection hc with _ hc
 subst hc
 exact hlk
theorem zkfZ {ops:Array Oper} {rest:List Oper} {o:Oper} {a:Act} {Q:Exit→Act→World→Prop} {b:Nat} {l:List Lx.Bytes} {w:World} (h:Counts b l w) (s:Lx.Bytes) (hs:s.length≤140737488351232) (hl:l.length≤1000000)
  (hg:o.guard=none) (m x v:Operand) (hop:o.op=Op.mapUpdate 107 m x v) (hm:a.eval m=.map (some b)) (hx:a.eval x=.string ⟨s.toArray⟩) {c:Int} (hv:a.eval v=.int .i64 c) (hc:c=(l.count s:Int)+1)
  (hK:∀w',Counts b (l++[s]) w'→w.grownBy w' (some b)→wpList Tryz.prog ops Q rest (a.put o.dst undef) w'):wpList Tryz.prog ops Q (o::rest) a w:=by
 obtain⟨n,D,hn,hown,hD,hat⟩:=h
 have H0:keyOf Tryz.prog 9 (.string ⟨s.toArray⟩)=some (.string s):=by
  simpa using keyOf_string_mk (P:= Tryz.prog) Tryz.underlying9 (s:=⟨s.toArray⟩) (by simp[ByteArray.size,maxLen];omega)
 have H1:=List.count_le_length (a:=s) (l:=l)
 refine wpList_mapUpdate_own _ hg m x v 107 hop 9 3 (Maps.string_keyed (P:= Tryz.prog) Tryz.underlying9) Tryz.underlying107 _ b n _ hm hown (by unfold maxLen;omega) _ _ _ hx hv H0 _ [] (plainElem_int Tryz.underlying3 (zobZ c (by omega) (by omega))) ?_
 intro w' h1 h2
 subst hc
 refine hK w' ⟨n+1,_,by simp;omega,h1,hD.put _ _,fun t=>?_⟩ h2
 rw[List.count_append]
 by_cases hts:t=s
 ·subst hts
  rw[Maps.atKey_put_same hD (by trivial)]
  simp
 ·rw[Maps.atKey_put_other (by intro e;injection e with e;exact hts e),hat t]
  have:List.count t [s]=0:=by rw[List.count_eq_zero];simpa using hts
  rw[this,Nat.add_zero]
theorem zfkZ (ns:List Lx.Bytes) (v:Value) (w:World) (hG:GS w) (hN:NG≤w.heap.size) (hv:StrRow w v ns) (hl:ns.length≤1000000) (hs:∀s∈ns,s.length≤1000000000) :
  Calls Tryz.prog 108 #[v] w fun e w'=>e=.returned (.bool (Sx.apart NM ns))∧Below w.heap.size w w':=by
 have Hw:=@run_makeMap Tryz.prog
 obtain⟨A,c,rfl,hi⟩:=hv
 have hv:StrRow w (.slice A ns.length c) ns:=⟨A,c,rfl,hi⟩
 have HV:=zh hv
 have HG:=zh hG
 have HS:=zh hs
 obtain⟨L,hL⟩:=zE (w.heap.size)
 obtain⟨w2,hw2⟩:=zE (w.alloc (.map #[] 0))
 have He:Counts L [] w2:=⟨0,.map [],Nat.le_refl _,by rw[←hw2,←hL];exact World.ownsMap_made w _ _ _,Maps.isMap_empty,fun s=>rfl⟩
 have Hh:Below L w w2:=by rw[←hw2,←hL];exact zeZ (World.grownBy_alloc w _ none)
 have Hr:L<w2.heap.size:=by rw[←hw2];simp;omega
 have Hk:=zh He
 have Hp:=zh Hh
 have HL:=zh hL
 have hNL:NG≤L:=by omega
 clear hv hi hG hs He Hh
 go_enter Tryz.func108, Tryz.ntmps108
 go_wp2_with fail
 go_loopg [9] (ns.length) (fun i v wr=>∃(m:Nat),i=ns.length-m∧v=.int .i64 (m:Int)∧m≤ns.length∧Counts L (ns.take m) wr∧Below L w wr∧L<wr.heap.size∧(∀s∈ns.take m,NM.small s=true)∧(ns.take m).Nodup)
 case atStart=>exact⟨0,rfl,rfl,Nat.zero_le _,Hk.o,Hp.o,Hr,by simp,by simp⟩
 case round=>
  obtain⟨m,hi,rfl,hm,hC,hb,hlr,hsm,hnd⟩:=hrel
  have HI:=zh hi
  have HC:=zh hC
  have HB:=zh hb
  have Hf:=zh hsm
  have Hg:=zh hnd
  have m0:(0:Int)≤(m:Int):=by omega
  clear hi hC hb hsm hnd
  by_cases hlt:m<ns.length
  ·have Hq:(m:Int)<(ns.length:Int):=by omega
   obtain⟨g,off,rfl,hsp⟩:=HV.o.spot m hlt
   obtain⟨q0,q1⟩:=hsp wr (by rw[HL.o];exact HB.o)
   have H9:=List.take_succ_eq_append_getElem hlt
   have H0:=List.getElem_mem hlt
   obtain⟨s,hse⟩:=zE (ns[m]'hlt)
   rw[hse]at q1 H9 H0
   have Hn:=HS.o s H0
   have Hi:=HC.o.look s (by omega)
   obtain⟨k,hk⟩:=zE ((ns.take m).count s)
   have Hx:k≤1000000:=by have:=List.count_le_length (a:=s) (l:=ns.take m);simp at this;omega
   have Ht:(k:Int)≤1000000:=by omega
   have Hv:(0:Int)≤(k:Int):=by omega
   rw[hk]at Hi
   have H5:=zh H9
   have HK:=zh hk
   have Hc:=zh H0
   clear H9 hk H0 hsp hse
   go_wp2_with (at_mapUpdate;refine zkfZ HC.o s (by omega) (by simp;omega) rfl _ _ _ rfl rfl rfl rfl (by rw[HK.o]) ?_)
   intro w3 hC3 H8
   have Hb:Below L w w3:=HB.o.grown H8 (by omega) (fun j e=>by injection e with e;omega)
   have hG3:=HG.o.below (by rw[HL.o];exact Hb)
   have H3:=hC3.look s (by omega)
   have Hj:(ns.take m++[s]).count s=k+1:=by rw[List.count_append,HK.o];simp
   rw[Hj]at H3
   have Hm:=H8.size
   have H1:=zmfZ s w3 hG3 (by omega) Hn
   have Hu:=zh H8
   have Ho:=zh hC3
   have Hd:=zh Hb
   have H7:=zh H1
   obtain⟨kk,hkk⟩:=zE (k+1)
   rw[hkk]at H3
   have H6:=zh hkk
   clear H8 hC3 Hb hG3 Hj H1 Hi hkk
   by_cases hz:k=0
   ·have Hs:decide ((1:Int)<(kk:Int))=false:=by simp;have:=H6.o;omega
    have Ha:¬(1:Int)<(kk:Int):=by have:=H6.o;omega
    have HZ:=zh hz
    clear hz
    cases hsmall:NM.small s with
    | true=>
     rw[hsmall]at H7
     have H2:=zh hsmall
     clear hsmall
     go_wp2_with (go_at_call 132;refine H7.o.mono ?_;rintro e w4 ⟨rfl,H4⟩)
     go_roundg (ns.length-(m+1))
     case measure=>have:=HI.o;omega
     case rel=>
      refine⟨m+1,rfl,by simp,hlt,?_,Hd.o.trans (H4.mono (by omega)),Nat.lt_of_lt_of_le (by omega) H4.size,?_,?_⟩
      ·rw[H5.o];exact Ho.o.below H4
      ·rw[H5.o]
       intro t ht
       rcases List.mem_append.1 ht with h | h
       ·exact Hf.o t h
       ·rw[List.mem_singleton]at h;rw[h];exact H2.o
      ·rw[H5.o,List.nodup_append]
       refine⟨Hg.o,by simp,?_⟩
       intro a ha b hb Hl
       rw[List.mem_singleton]at hb
       subst hb Hl
       have:=List.count_eq_zero.1 (HK.o.trans HZ.o)
       exact this ha
    | false=>
     rw[hsmall]at H7
     have HF:=zh (show Sx.apart NM ns=false by
      cases h:Sx.apart NM ns with
      | false=>rfl
      | true=>have:=((Sx.apart_iff _ _).1 h).1 s Hc.o;rw[hsmall]at this;cases this)
     clear hsmall
     go_wp2_with (go_at_call 132;refine H7.o.mono ?_;rintro e w4 ⟨rfl,H4⟩)
     go_ret
     rw[HF.o,HL.o]
     exact⟨rfl,Hd.o.trans (H4.mono (by omega))⟩
   ·have Hs:decide ((1:Int)<(kk:Int))=true:=by simp;have:=H6.o;omega
    have Ha:(1:Int)<(kk:Int):=by have:=H6.o;omega
    have HF:=zh (show Sx.apart NM ns=false by
     cases h:Sx.apart NM ns with
     | false=>rfl
     | true=>
      have hn:=((Sx.apart_iff _ _).1 h).2
      have h2:(ns.take m++[s]).Nodup:=by rw[←H5.o];exact hn.sublist (List.take_sublist _ _)
      rw[List.nodup_append]at h2
      have h3:s∈ns.take m:=Decidable.byContradiction fun hne=>by
       have:=List.count_eq_zero.2 hne
       have:=HK.o
       omega
      exact absurd rfl (h2.2.2 s h3 s (by simp)))
    go_wp2_with fail
    go_ret
    rw[HF.o,HL.o]
    exact⟨rfl,Hd.o⟩
  ·have Hq:¬(m:Int)<(ns.length:Int):=by omega
   have HT:=zh (show Sx.apart NM ns=true by
    rw[Sx.apart_iff]
    have h1:=Hf.o
    have h2:=Hg.o
    rw[List.take_of_length_le (by omega)]at h1 h2
    exact⟨h1,h2⟩)
   go_wp2_with fail
   go_ret
   rw[HT.o]
   exact⟨rfl,HB.o⟩
theorem Sx.shape_kind {N:Sx.Names} {k:Int} {n:Lx.Bytes} {ns:List Lx.Bytes} {es:List Bool} {ps:List Sx.Ty} (h:Sx.shape N k n ns es ps=true):k=1∨k=2∨k=3∨k=4∨k=5∨k=6∨k=7∨k=8:=by
 unfold Sx.shape at h
 split at h
 ·omega
 ·split at h
  ·omega
  ·split at h
   ·omega
   ·split at h
    ·omega
    ·split at h
     ·omega
     ·split at h
      ·omega
      ·cases h
theorem zdwZ (N:Sx.Names) (hN:Sx.NamesOk N) (W0:World) (b:Nat):∀(n:Nat) (t:Sx.Ty),Sx.size t≤n→TypOk N W0 b t∧SigOk N W0 b t:=by
 intro n
 induction n with
 | zero=>intro t h;have:=Sx.size_pos t;omega
 | succ n ih=>
  intro t hn
  have hp:∀p∈t.parts,TypOk N W0 b p∧SigOk N W0 b p:=by
   intro p hp
   refine ih p ?_
   have:=Sx.size_mem hp
   have:=Sx.size_parts t
   omega
  have H0:=zveZ N W0 b t (fun p h=>(hp p h).1)
  refine⟨?_,H0⟩
  intro d v c l w hr ht h hc
  obtain⟨d',hd,hr',hsh⟩:=Sx.right_parts hr
  rcases Sx.shape_kind hsh with hk | hk | hk | hk | hk | hk | hk | hk
  ·exact ztoZ N hN W0 b t hk d v c l w hr ht h hc
  ·exact ztpZ N hN W0 b t hk d v c l w hr ht h hc
  ·exact ztqZ N hN W0 b t hk d v c l w hr ht h hc
  ·exact ztrZ N hN W0 b t hk d v c l w hr ht h hc
  ·exact ztsZ N hN W0 b t (fun p h=>(hp p h).1) hk d v c l w hr ht h hc
  ·exact ztuZ N hN W0 b t (fun p h=>(hp p h).1) hk d v c l w hr ht h hc
  ·exact zttZ N hN W0 b t H0 hk d v c l w hr ht h hc
  ·exact ztvZ N hN W0 b t (fun p h=>(hp p h).2) hk d v c l w hr ht h hc
end Go.Proofs.YtdncljdfmdgdaaaGreatDoor
