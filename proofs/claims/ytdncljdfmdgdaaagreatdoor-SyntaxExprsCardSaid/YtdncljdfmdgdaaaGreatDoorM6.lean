/-
  The walk of 'cut' with the callee that goes on (Tokens' own).
-/
import Derived.Test.YtdncljdfmdgdaaaGreatDoorM1
import Derived.Test.YtdncljdfmdgdaaaGreatDoorM5
import Derived.Test.YtdncljdfmdgdaaaGreatDoorM3
import Derived.RangeFuncNested
import Derived.RangeFuncBound
import Derived.RangeFuncCalls
import Derived.RangeFuncLeaves
import Derived.Shelf.Abstract
import Derived.Shelf.RegionOpen
import Derived.WalkKit
import Derived.OwnWalkIn
import Derived.TacticsInMore
import Derived.LoopNIn
import Derived.LoopIn
set_option linter.unusedSimpArgs false
set_option linter.unusedVariables false
set_option maxRecDepth 100000
set_option maxHeartbeats 4000000
namespace Go.Proofs.YtdncljdfmdgdaaaGreatDoor
open Go.RowKit
theorem zcoZ {w w1 w2:World} {b:Nat} (h:w.grownBy w1 none) (h':w1.grownBy w2 (some b)) (hb:w.heap.size≤b):w.grownBy w2 none:=
 ⟨h'.os.trans h.os,h'.tape.trans h.tape,h'.output.trans h.output,Nat.le_trans h.size h'.size,fun j hj _=>(h'.block j (by have:=h.size;omega) (fun e=>by injection e with e;omega)).trans (h.block j hj (fun e=>nomatch e))⟩
theorem IsRef.alloc {w:World} {g:Nat} {x y:Int} (h:IsRef w g x y) (o:Obj):IsRef (w.alloc o) g x y:=heap_alloc h o
end Go.Proofs.YtdncljdfmdgdaaaGreatDoor
namespace Go.Proofs.YtdncljdfmdgdaaaGreatDoor
open Go.RowKit Go.Shelf
namespace Lx
def esc (c:UInt8):Bytes:=if c.toNat==10 then [92,110]else if c.toNat==34||c.toNat==92 then [92,c]else [c]
theorem quoteIn_cons (c:UInt8) (t:Bytes):quoteIn (c::t)=esc c++quoteIn t:=rfl
theorem quoteIn_append:∀(l k:Bytes),quoteIn (l++k)=quoteIn l++quoteIn k
 | [],k=>rfl
 | c::t,k=>by rw[List.cons_append,quoteIn_cons,quoteIn_cons,quoteIn_append t k,List.append_assoc]
theorem zteZ (c:UInt8):(esc c).length≤2:=by
 unfold esc
 split
 ·simp
 ·split <;> simp
theorem quoteIn_len:∀(l:Bytes),(quoteIn l).length≤2 * l.length
 | []=>by simp[quoteIn]
 | c::t=>by
  rw[quoteIn_cons,List.length_append]
  have:=zteZ c
  have:=quoteIn_len t
  simp
  omega
end Lx
theorem zekZ (s:ByteArray) (m:Nat) (h:m<s.size):s.data.toList.take (m+1)=s.data.toList.take m++[s[m]]:=by
 have:=zcfZ s 0 m (Nat.zero_le _) h
 simpa using this
theorem zjzZ (s:ByteArray) (w:World) (hs:s.size≤70368744177600) :
  Calls Tryz.prog 114 #[.string s] w fun e w'=>e=.returned (.string ⟨(Lx.quote s.data.toList).toArray⟩)∧Below w.heap.size w w':=by
 go_enter Tryz.func114, Tryz.ntmps114
 have h0:Bld w.heap.size w.heap.size [] (w.alloc (.cells #[.pointer none,.slice none 0 0] 100)):=Lib.fresh_isBuilder _ _ _
 have H7:Below w.heap.size w (w.alloc (.cells #[.pointer none,.slice none 0 0] 100)):=(Below.refl _ w).alloc (Nat.le_refl _) _
 go_wp2_with (go_at_call 93;refine(zdlZ w.heap.size w.heap.size [] 34 _ h0 (by decide) H7.size).mono ?_;rintro e w1 ⟨rfl,h1,hb1'⟩;have H8:=H7.trans hb1';clear hb1')
 have H1:=zh h1
 have H9:=zh H8
 clear h1 H8 h0 H7
 go_loopg [8] (s.size) (fun n v wr=>∃m:Nat,n=s.size-m∧v=.int .i64 (m:Int)∧m≤s.size∧Bld w.heap.size w.heap.size (34::Lx.quoteIn (s.data.toList.take m)) wr∧Below w.heap.size w wr)
 case atStart=>exact⟨0,rfl,rfl,Nat.zero_le _,H1.o,H9.o⟩
 case round=>
  obtain⟨m,hn,rfl,hm,hB,hb⟩:=hrel
  have HN:=zh hn
  clear hn H1 H9
  by_cases hlt:m<s.size
  ·have hi:(m:Int)<(s.size:Int):=by omega
   have Hf:(0:Int)≤(m:Int):=by omega
   have Hd:(m:Int)≤70368744177600:=by omega
   obtain⟨c,hc⟩:∃c,c=s[m]'hlt:=⟨_,rfl⟩
   obtain⟨l,hl⟩:=zE (34::Lx.quoteIn (s.data.toList.take m))
   have He:l.length≤2 * s.size+1:=by
    rw[←hl]
    have:=Lx.quoteIn_len (s.data.toList.take m)
    simp only[List.length_cons,List.length_take,ziZ]at this ⊢
    omega
   have HT:=zh (zekZ s m hlt)
   have HL:=zh hl
   have HC:=zh hc
   rw[hl]at hB
   clear hl hc
   have H6:=hb.size
   have H3:∀w',Bld w.heap.size w.heap.size (l++Lx.esc (s[m]'hlt)) w'→Bld w.heap.size w.heap.size (34::Lx.quoteIn (s.data.toList.take (m+1))) w':=by
    intro w' h
    rw[HT.o,Lx.quoteIn_append,←List.cons_append,HL.o]
    have e:Lx.quoteIn [s[m]'hlt]=Lx.esc (s[m]'hlt):=by rw[Lx.quoteIn_cons];simp[Lx.quoteIn]
    rw[e]
    exact h
   by_cases h10:(s[m]'hlt).toNat=10
   ·have B10:(((s[m]'hlt).toNat:Int)==10)=true:=by simp;omega
    have he:Lx.esc (s[m]'hlt)=[92,110]:=by simp[Lx.esc,h10]
    rw[he]at H3
    clear h10 he
    go_wp2_with (go_at_call 94;refine(zjsZ w.heap.size w.heap.size l ⟨#[92,110]⟩ _ hB (by show l.length+2≤_;omega) H6).mono ?_;rintro e w2 ⟨rfl,h2,hb2'⟩;have H4:=hb.trans hb2';clear hb2')
    go_roundg (s.size-(m+1))
    case measure=>have:=HN.o;omega
    case rel=>exact⟨m+1,rfl,by simp,hlt,H3 _ h2,H4⟩
   ·have B10:(((s[m]'hlt).toNat:Int)==10)=false:=by simp;omega
    by_cases hq:(s[m]'hlt).toNat=34∨(s[m]'hlt).toNat=92
    ·have he:Lx.esc (s[m]'hlt)=[92,s[m]'hlt]:=by simp[Lx.esc,h10,hq]
     rw[he]at H3
     have H0:∀(w2:World),Bld w.heap.size w.heap.size (l++[92]) w2→Below w.heap.size w w2→Calls Tryz.prog 93 #[.pointer (some ⟨w.heap.size,0,none⟩),.int .u8 ((s[m]'hlt).toNat:Int)] w2 fun e w'=>e=.returned .nilIface∧Bld w.heap.size w.heap.size (l++[92,s[m]'hlt]) w'∧Below w.heap.size w w':=fun w2 h2 H4=>
      (zdlZ w.heap.size w.heap.size (l++[92]) (s[m]'hlt) w2 h2 (by simp;omega) H4.size).mono fun e w' h=>⟨h.1,by simpa using h.2.1,H4.trans h.2.2⟩
     have H2:Calls Tryz.prog 93 #[.pointer (some ⟨w.heap.size,0,none⟩),.int .u8 92] wr fun e w'=>e=.returned .nilIface∧Bld w.heap.size w.heap.size (l++[92]) w'∧Below w.heap.size w w':=
      (zdlZ w.heap.size w.heap.size l 92 wr hB (by omega) H6).mono fun e w' h=>⟨h.1,h.2.1,hb.trans h.2.2⟩
     by_cases h34:(s[m]'hlt).toNat=34
     ·have B34:(((s[m]'hlt).toNat:Int)==34)=true:=by simp;omega
      clear h10 hq h34 he
      go_wp2_with (first | (go_at_call 93;refine H2.mono ?_;clear H2;rintro e w2 ⟨rfl,h2,H4⟩) | (go_at_call 93;refine(H0 w2 h2 H4).mono ?_;clear H0;rintro e w3 ⟨rfl,h3,H5⟩))
      go_roundg (s.size-(m+1))
      case measure=>have:=HN.o;omega
      case rel=>exact⟨m+1,rfl,by simp,hlt,H3 _ h3,H5⟩
     ·have B34:(((s[m]'hlt).toNat:Int)==34)=false:=by simp;omega
      have B92:(((s[m]'hlt).toNat:Int)==92)=true:=by simp;omega
      clear h10 hq h34 he
      go_wp2_with (first | (go_at_call 93;refine H2.mono ?_;clear H2;rintro e w2 ⟨rfl,h2,H4⟩) | (go_at_call 93;refine(H0 w2 h2 H4).mono ?_;clear H0;rintro e w3 ⟨rfl,h3,H5⟩))
      go_roundg (s.size-(m+1))
      case measure=>have:=HN.o;omega
      case rel=>exact⟨m+1,rfl,by simp,hlt,H3 _ h3,H5⟩
    ·have B34:(((s[m]'hlt).toNat:Int)==34)=false:=by simp;omega
     have B92:(((s[m]'hlt).toNat:Int)==92)=false:=by simp;omega
     have he:Lx.esc (s[m]'hlt)=[s[m]'hlt]:=by simp[Lx.esc,h10,hq]
     rw[he]at H3
     have H0:Calls Tryz.prog 93 #[.pointer (some ⟨w.heap.size,0,none⟩),.int .u8 ((s[m]'hlt).toNat:Int)] wr fun e w'=>e=.returned .nilIface∧Bld w.heap.size w.heap.size (l++[s[m]'hlt]) w'∧Below w.heap.size w w':=
      (zdlZ w.heap.size w.heap.size l (s[m]'hlt) wr hB (by omega) H6).mono fun e w' h=>⟨h.1,h.2.1,hb.trans h.2.2⟩
     clear h10 hq he
     go_wp2_with (go_at_call 93;refine H0.mono ?_;clear H0;rintro e w3 ⟨rfl,h3,H5⟩)
     go_roundg (s.size-(m+1))
     case measure=>have:=HN.o;omega
     case rel=>exact⟨m+1,rfl,by simp,hlt,H3 _ h3,H5⟩
  ·have Ha:m=s.size:=by omega
   have hi:¬(m:Int)<(s.size:Int):=by omega
   have hq:34::Lx.quoteIn (s.data.toList.take m)++[34]=Lx.quote s.data.toList:=by
    rw[Ha,List.take_of_length_le (by rw[ziZ];exact Nat.le_refl _)];rfl
   have Hb:=Lx.quoteIn_len (s.data.toList.take m)
   rw[List.length_take,ziZ]at Hb
   have H0:Calls Tryz.prog 93 #[.pointer (some ⟨w.heap.size,0,none⟩),.int .u8 34] wr fun e w'=>e=.returned .nilIface∧Bld w.heap.size w.heap.size (Lx.quote s.data.toList) w'∧Below w.heap.size w w':=
    (zdlZ w.heap.size w.heap.size _ 34 wr hB (by simp;omega) hb.size).mono fun e w' h=>⟨h.1,by rw[←hq];exact h.2.1,hb.trans h.2.2⟩
   clear hq Ha hB
   go_wp2_with (first | (go_at_call 93;refine H0.mono ?_;clear H0;rintro e w3 ⟨rfl,h3,H5⟩) | (go_at_call 95;refine(Tryz.Builder_String_any w.heap.size w.heap.size _ _ h3 H5.size).mono ?_;rintro e w4 ⟨rfl,Hc⟩))
   go_ret
   exact⟨rfl,H5.trans Hc⟩
def OfT (T:Nat) (o:Obj):Prop:=∃cs fr,o=.cells cs T fr
structure KeepT (T n₀:Nat) (W W':World):Prop where
 size:W.heap.size≤W'.heap.size
 low:∀k,k<n₀→k<W.heap.size→W'.heap[k]? =W.heap[k]?
 own:∀(k:Nat) (o:Obj),W.heap[k]? =some o→OfT T o→W'.heap[k]? =some o
def AbT {β:Type} (T B:Nat) (J:β→World→Prop):Prop:=
 ∀s W W' row,J s W→W.grownBy W' row→(∀r,row=some r→B≤r∧∃o:Obj,W.heap[r]? =some o∧(o.isCells=false∨OfT T o))→J s W'
theorem KeepT.refl (T n₀:Nat) (W:World):KeepT T n₀ W W:=⟨Nat.le_refl _,fun _ _ _=>rfl,fun _ _ h _=>h⟩
theorem KeepT.trans {T n₀:Nat} {A B C:World} (h:KeepT T n₀ A B) (k:KeepT T n₀ B C):KeepT T n₀ A C:=
 ⟨Nat.le_trans h.size k.size,fun i hi hA=>(k.low i hi (Nat.lt_of_lt_of_le hA h.size)).trans (h.low i hi hA),fun i o hi ho=>k.own i o (h.own i o hi ho) ho⟩
theorem KeepT.alloc (T n₀:Nat) (W:World) (o:Obj):KeepT T n₀ W (W.alloc o):=
 ⟨by simp,fun k _ hk=>Below.heap_alloc W o k hk,fun k o' hk _=>(Below.heap_alloc W o k (Array.getElem?_eq_some_iff.1 hk).1).trans hk⟩
theorem AbT.put {β:Type} {T B:Nat} {J:β→World→Prop} (h:AbT T B J) {s:β} {W:World} {l:Nat} {o:Obj} (o':Obj) (hs:J s W) (hB:B≤l) (hl:W.heap[l]? =some o) (ho:o.isCells=false):J s (W.putObj l o'):=
 h s W _ (some l) hs (grownBy_putObj' W l o') (fun r e=>by cases e;exact⟨hB,o,hl,.inl ho⟩)
theorem AbT.new {β:Type} {T B:Nat} {J:β→World→Prop} (h:AbT T B J) {s:β} {W:World} (o:Obj) (hs:J s W):J s (W.alloc o):=
 h s W _ none hs (World.grownBy_alloc W o none) (fun r e=>by cases e)
section
variable {F:Fence} {n:Nat} {P:Program}
end
end Go.Proofs.YtdncljdfmdgdaaaGreatDoor
