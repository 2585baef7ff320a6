/-
  coilbook.Same at texts; the two lists of words.
-/
import Derived.Test.YtdncljdfmdgdaaaGreatDoorM1
import Derived.Test.YtdncljdfmdgdaaaGreatDoorM8
import Derived.Test.YtdncljdfmdgdaaaGreatDoorM14
set_option linter.unusedSimpArgs false
set_option linter.unusedVariables false
set_option maxHeartbeats 4000000
namespace Go.Proofs.YtdncljdfmdgdaaaGreatDoor
open Go.RowKit Go.Shelf
def StrsIn (w:World) (v:Value) (l:List Lx.Bytes):Prop:=
 ∃g c cur fr,v=.slice (some ⟨g,0,none⟩) l.length c∧w.heap[g]? =some (.cells cur 9 fr)∧cur.toList.take l.length=l.map (fun s=>Value.string ⟨s.toArray⟩)
theorem StrsIn.below {w w':World} {v:Value} {ts:List Lx.Bytes} (h:StrsIn w v ts) (hb:Below w.heap.size w w'):StrsIn w' v ts:=by
 obtain⟨g,c,cur,fr,h1,h2,h3⟩:=h
 exact⟨g,c,cur,fr,h1,(hb.block g (zaZ h2)).trans h2,h3⟩
theorem zrjZ (w:World):Calls Tryz.prog 192 #[] w fun e w'=>
  e=.returned (.slice (some ⟨w.heap.size,0,none⟩) 25 25)∧w'=w.alloc (.cells wordCells 9):=by
 go_enter Tryz.func192, Tryz.ntmps192
 go_wp2
 go_ret
 exact⟨rfl,rfl⟩
theorem znfZ (ts us:List Lx.Bytes) (v u:Value) (w:World) (hv:StrRow w v ts) (hu:StrRow w u us) (hl:ts.length≤1000000000) (hl2:us.length≤1000000000) :
  Calls Tryz.prog 16 #[v,u] w fun e w'=>e=.returned (.bool (decide (ts=us)))∧Below w.heap.size w w':=by
 obtain⟨A1,c1,rfl,hv'⟩:=hv
 obtain⟨A2,c2,rfl,hu'⟩:=hu
 have HA:=zh (show StrRow w (.slice A1 ts.length c1) ts from⟨A1,c1,rfl,hv'⟩)
 have HB:=zh (show StrRow w (.slice A2 us.length c2) us from⟨A2,c2,rfl,hu'⟩)
 clear hv' hu'
 by_cases hlen:ts.length=us.length
 ·have hb:((ts.length:Int) != (us.length:Int))=false:=by simp[hlen]
  have HL:=zh hlen
  clear hlen
  go_enter Tryz.func16, Tryz.ntmps16
  go_wp2
  go_loopg [5] (ts.length) (fun n v wr=>∃(m:Nat),n=ts.length-m∧v=.int .i64 (m:Int)∧m≤ts.length∧ts.take m=us.take m∧Below w.heap.size w wr)
  case atStart=>exact⟨0,rfl,rfl,Nat.zero_le _,by simp,Below.refl _ _⟩
  case round=>
   obtain⟨m,hn,rfl,hm,he,hbl⟩:=hrel
   have HN:=zh hn
   have HE:=zh he
   clear hn he
   by_cases hlt:m<ts.length
   ·have H0:m<us.length:=by rw[←HL.o];exact hlt
    have hi:(m:Int)<(ts.length:Int):=by omega
    have H2:(m:Int)<(us.length:Int):=by omega
    have H3:(0:Int)≤(m:Int):=by omega
    have H4:(m:Int)≤1000000000:=by omega
    obtain⟨g,off,rfl,hgl,t0⟩:=HA.o.cellAt hbl m hlt
    obtain⟨g2,off2,rfl,hgl2,u0⟩:=HB.o.cellAt hbl m H0
    obtain⟨t,ht⟩:=zE (ts[m]'hlt)
    obtain⟨x,hx⟩:=zE (us[m]'H0)
    rw[ht]at t0
    rw[hx]at u0
    have HT:=zh ht
    have HX:=zh hx
    clear ht hx
    cases hq:(t==x)with
    | true=>
     have H1:t=x:=by simpa using hq
     have HS:=zh (zduZ HE.o hlt H0 (by rw[HT.o,HX.o,H1]))
     clear H1
     go_wp2
     go_quiet (fail)
     go_wp2
     go_roundg (ts.length-(m+1))
     case measure=>have:=HN.o;omega
     case rel=>exact⟨m+1,rfl,by simp,hlt,HS.o,Below.drewN hbl _⟩
    | false=>
     have H1:t≠x:=by simpa using hq
     have HS:=zh (show decide (ts=us)=false by
      rw[decide_eq_false_iff_not]
      rintro rfl
      exact H1 (HT.o.symm.trans HX.o))
     clear H1
     go_wp2
     go_quiet (fail)
     go_wp2
     go_ret
     rw[HS.o]
     exact⟨rfl,Below.drewN hbl _⟩
   ·have hi:¬(m:Int)<(ts.length:Int):=by omega
    have HS:=zh (show decide (ts=us)=true by
     rw[decide_eq_true_eq]
     have h1:=HE.o
     rwa [List.take_of_length_le (by omega),List.take_of_length_le (by have:=HL.o;omega)]at h1)
    go_wp2
    go_ret
    rw[HS.o]
    exact⟨rfl,hbl⟩
 ·have hb:((ts.length:Int) != (us.length:Int))=true:=by simp;omega
  have HS:=zh (show decide (ts=us)=false by
   rw[decide_eq_false_iff_not]
   rintro rfl
   exact hlen rfl)
  clear hlen
  go_enter Tryz.func16, Tryz.ntmps16
  go_wp2
  go_ret
  rw[HS.o]
  exact⟨rfl,Below.refl _ _⟩
theorem zilZ (ts us:List Lx.Bytes) (v u:Value) (w:World) (hv:StrRow w v ts) (hu:StrRow w u us) (hl:ts.length≤1000000000) (hl2:us.length≤1000000000) :
  Calls Tryz.prog 46 #[v,u] w fun e w'=>e=.returned (.bool (decide (ts=us)))∧Below w.heap.size w w':=by
 obtain⟨A1,c1,rfl,hv'⟩:=hv
 obtain⟨A2,c2,rfl,hu'⟩:=hu
 have HA:=zh (show StrRow w (.slice A1 ts.length c1) ts from⟨A1,c1,rfl,hv'⟩)
 have HB:=zh (show StrRow w (.slice A2 us.length c2) us from⟨A2,c2,rfl,hu'⟩)
 clear hv' hu'
 by_cases hlen:ts.length=us.length
 ·have hb:((ts.length:Int) != (us.length:Int))=false:=by simp[hlen]
  have HL:=zh hlen
  clear hlen
  go_enter Tryz.func46, Tryz.ntmps46
  go_wp2
  go_loopg [5] (ts.length) (fun n v wr=>∃(m:Nat),n=ts.length-m∧v=.int .i64 (m:Int)∧m≤ts.length∧ts.take m=us.take m∧Below w.heap.size w wr)
  case atStart=>exact⟨0,rfl,rfl,Nat.zero_le _,by simp,Below.refl _ _⟩
  case round=>
   obtain⟨m,hn,rfl,hm,he,hbl⟩:=hrel
   have HN:=zh hn
   have HE:=zh he
   clear hn he
   by_cases hlt:m<ts.length
   ·have H0:m<us.length:=by rw[←HL.o];exact hlt
    have hi:(m:Int)<(ts.length:Int):=by omega
    have H2:(m:Int)<(us.length:Int):=by omega
    have H3:(0:Int)≤(m:Int):=by omega
    have H4:(m:Int)≤1000000000:=by omega
    obtain⟨g,off,rfl,hgl,t0⟩:=HA.o.cellAt hbl m hlt
    obtain⟨g2,off2,rfl,hgl2,u0⟩:=HB.o.cellAt hbl m H0
    obtain⟨t,ht⟩:=zE (ts[m]'hlt)
    obtain⟨x,hx⟩:=zE (us[m]'H0)
    rw[ht]at t0
    rw[hx]at u0
    have HT:=zh ht
    have HX:=zh hx
    clear ht hx
    cases hq:(t==x)with
    | true=>
     have H1:t=x:=by simpa using hq
     have HS:=zh (zduZ HE.o hlt H0 (by rw[HT.o,HX.o,H1]))
     clear H1
     go_wp2
     go_quiet (fail)
     go_wp2
     go_roundg (ts.length-(m+1))
     case measure=>have:=HN.o;omega
     case rel=>exact⟨m+1,rfl,by simp,hlt,HS.o,Below.drewN hbl _⟩
    | false=>
     have H1:t≠x:=by simpa using hq
     have HS:=zh (show decide (ts=us)=false by
      rw[decide_eq_false_iff_not]
      rintro rfl
      exact H1 (HT.o.symm.trans HX.o))
     clear H1
     go_wp2
     go_quiet (fail)
     go_wp2
     go_ret
     rw[HS.o]
     exact⟨rfl,Below.drewN hbl _⟩
   ·have hi:¬(m:Int)<(ts.length:Int):=by omega
    have HS:=zh (show decide (ts=us)=true by
     rw[decide_eq_true_eq]
     have h1:=HE.o
     rwa [List.take_of_length_le (by omega),List.take_of_length_le (by have:=HL.o;omega)]at h1)
    go_wp2
    go_ret
    rw[HS.o]
    exact⟨rfl,hbl⟩
 ·have hb:((ts.length:Int) != (us.length:Int))=true:=by simp;omega
  have HS:=zh (show decide (ts=us)=false by
   rw[decide_eq_false_iff_not]
   rintro rfl
   exact hlen rfl)
  clear hlen
  go_enter Tryz.func46, Tryz.ntmps46
  go_wp2
  go_ret
  rw[HS.o]
  exact⟨rfl,Below.refl _ _⟩
end Go.Proofs.YtdncljdfmdgdaaaGreatDoor
