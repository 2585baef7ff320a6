/-
  The walk of Join.
-/
import Derived.Test.YtdncljdfmdgdaaaGreatDoorM1
import Derived.Test.YtdncljdfmdgdaaaGreatDoorM7
set_option linter.unusedSimpArgs false
set_option linter.unusedVariables false
set_option maxRecDepth 100000
set_option maxHeartbeats 4000000
namespace Go.Proofs.YtdncljdfmdgdaaaGreatDoor
open Go.RowKit Go.Shelf
namespace Lx
def joinStep (i:Nat) (b s:Bytes):Bytes:=if 65536<b.length then b else(if 0<i then b++[32]else b)++s
def joinFrom:Nat→Bytes→List Tok→Option Bytes
 | _,b,[]=>some b
 | i,b,t::l=>if(written t).2 then joinFrom (i+1) (joinStep i b (written t).1) l else none
def join (l:List Tok):Bytes×Nat:=
 match joinFrom 0 [] l with
 | none=>([],1)
 | some b=>if 65536<b.length then([],2)else if 4096<l.length then([],3)else(b,0)
theorem written_len (t:Tok) (hs:t.s.length≤1000000000) (hn1:t.n≤9223372036854775807):(written t).1.length≤3000000000:=by
 have h:∀s,raw t=some s→s.length≤3000000000:=by
  intro s h
  unfold raw at h
  split at h
  ·injection h with h;subst h;omega
  ·split at h
   ·split at h
    ·cases h
    ·injection h with h;subst h
     rw[Lib.decDigits_length]
     have:=nD_le 19 t.n.toNat (by omega)
     omega
   ·split at h
    ·injection h with h;subst h
     have:=quoteIn_len t.s
     simp[quote]
     omega
    ·cases h
 unfold written
 split
 ·simp
 ·simp
 ·rename_i c l he
  split
  ·exact h _ he
  ·simp
end Lx
def ToksIn (w:World) (v:Value) (ts:List Lx.Tok):Prop:=
 (ts=[]∧∃a c,v=.slice a 0 c)∨∃g c cur fr,v=.slice (some ⟨g,0,none⟩) ts.length c∧w.heap[g]? =some (.cells cur 133 fr)∧cur.toList.take (ts.length * 4)=ts.flatMap cellsT
theorem zthZ (ts:List Lx.Tok):∀(m:Nat) (h:m<ts.length) (q:Nat),q<4→(ts.flatMap cellsT)[m * 4+q]? =(cellsT (ts[m]'h))[q]? :=by
 induction ts with
 | nil=>intro m h;simp at h
 | cons t ts ih=>
  intro m h q hq
  rw[List.flatMap_cons]
  cases m with
  | zero=>rw[List.getElem?_append_left (by simp[cellsT];omega)];simp
  | succ m=>
   rw[List.getElem?_append_right (by simp[cellsT];omega)]
   have e:(m+1) * 4+q-(cellsT t).length=m * 4+q:=by simp[cellsT];omega
   rw[e,ih m (by simpa using h) q hq]
   rfl
theorem zfwZ {w:World} {ts:List Lx.Tok} {g m:Nat} {cur:Array Value} {fr:Nat×Nat} (hg:w.heap[g]? =some (.cells cur 133 fr)) (hc:cur.toList.take (ts.length * 4)=ts.flatMap cellsT) (h:m<ts.length) :
  w.cell? ⟨g,m * 4,none⟩=some (.int .i64 (ts[m]'h).pos)∧w.cell? ⟨g,m * 4+1,none⟩=some (.int .i64 (ts[m]'h).kind)∧w.cell? ⟨g,m * 4+2,none⟩=some (.string ⟨(ts[m]'h).s.toArray⟩)∧w.cell? ⟨g,m * 4+3,none⟩=some (.int .i64 (ts[m]'h).n):=by
 have e:∀q,q<4→w.cell? ⟨g,m * 4+q,none⟩=(cellsT (ts[m]'h))[q]? :=by
  intro q hq
  rw[zdZ hg,←Array.getElem?_toList,←zthZ ts m h q hq,←hc,List.getElem?_take_of_lt (by omega)]
 exact⟨e 0 (by omega),e 1 (by omega),e 2 (by omega),e 3 (by omega)⟩
theorem Bld.kept {B b:Nat} {l:List UInt8} {w w':World} (h:Bld B b l w) (hg:w.grownBy w' none):Bld B b l w':=by
 have e:∀p,Lib.BuilderAt 100 5 B b p (Lib.byteCells l) w→Lib.BuilderAt 100 5 B b p (Lib.byteCells l) w':=by
  rintro p ⟨hB,v,hb,ho,H0⟩
  exact⟨hB,v,(hg.block b (zaZ hb) (fun e=>nomatch e)).trans hb,ho.kept hg (by cases v.ownBlock <;> simp),H0⟩
 exact h.imp (e _) (e _)
theorem zecZ (B b:Nat) (l:List UInt8) (w:World) (h:Bld B b l w):Calls Tryz.prog 92 #[.pointer (some ⟨b,0,none⟩)] w fun e w'=>e=.returned (.int .i64 l.length)∧w'=w:=by
 refine(Tryz.Builder_Len B b _ w h).mono ?_
 rintro e w' ⟨rfl,rfl⟩
 exact⟨by rw[zboZ],rfl⟩
theorem ztiZ (ts:List Lx.Tok) (v:Value) (w:World) (hG:GS w) (hN:NG≤w.heap.size) (hv:ToksIn w v ts) (hl:ts.length≤1000000000)
  (hts:∀t∈ts,t.s.length≤1000000000∧-9223372036854775808≤t.n∧t.n≤9223372036854775807) :
  Calls Tryz.prog 48 #[v] w fun e w'=>e=.returned (.tuple #[.string ⟨(Lx.join ts).1.toArray⟩,.int .i64 (Lx.join ts).2])∧Below w.heap.size w w':=by
 obtain⟨a0,cp,rfl⟩:∃a0 c,v=.slice a0 ts.length c:=by
  rcases hv with⟨rfl,a,c,rfl⟩ | ⟨g,c,cur,fr,rfl,_⟩
  ·exact⟨a,c,rfl⟩
  ·exact⟨_,c,rfl⟩
 have HV:=zh hv
 clear hv
 go_enter Tryz.func48, Tryz.ntmps48
 have h0:Bld w.heap.size w.heap.size [] (w.alloc (.cells #[.pointer none,.slice none 0 0] 100)):=Lib.fresh_isBuilder _ _ _
 have Hd:Below w.heap.size w (w.alloc (.cells #[.pointer none,.slice none 0 0] 100)):=(Below.refl _ w).alloc (Nat.le_refl _) _
 have HJ:Hid (Lx.join ts=match Lx.joinFrom 0 [] ts with | none=>([],1) | some b=>if 65536<b.length then([],2)else if 4096<ts.length then([],3)else(b,0)):=rfl
 go_wp2
 have H0:=zh h0
 have Hf:=zh Hd
 clear h0 Hd
 go_loopg [11] (ts.length) (fun n v wr=>∃(m:Nat) (b:List UInt8),n=ts.length-m∧v=.int .i64 (m:Int)∧m≤ts.length∧Bld w.heap.size w.heap.size b wr∧Below w.heap.size w wr∧b.length≤3000100000∧Lx.joinFrom m b (ts.drop m)=Lx.joinFrom 0 [] ts)
 case atStart=>exact⟨0,[],rfl,rfl,Nat.zero_le _,H0.o,Hf.o,by simp,rfl⟩
 case round=>
  obtain⟨m,b,hn,rfl,hm,hB,hb,hbl,he⟩:=hrel
  have HN:=zh hn
  have HE:=zh he
  clear hn he H0 Hf
  by_cases hlt:m<ts.length
  ·have hi:(m:Int)<(ts.length:Int):=by omega
   have Ho:(0:Int)≤(m:Int):=by omega
   have Hg:(m:Int)≤1000000000:=by omega
   obtain⟨g,cur,fr,rfl,hgb,hcur⟩:∃g cur fr,a0=some ⟨g,0,none⟩∧w.heap[g]? =some (.cells cur 133 fr)∧cur.toList.take (ts.length * 4)=ts.flatMap cellsT:=by
    rcases HV.o with⟨h,_⟩ | ⟨g,c,cur,fr,h,h1,h2⟩
    ·rw[h]at hlt;simp at hlt
    ·injection h with h _ _;exact⟨g,cur,fr,h,h1,h2⟩
   have Hl:=zaZ hgb
   have H4:=(hb.block g Hl).trans hgb
   obtain⟨t0,t1,t2,t3⟩:=zfwZ H4 hcur hlt
   have Hm:=zaZ H4
   obtain⟨t,ht⟩:=zE (ts[m]'hlt)
   rw[ht]at t0 t1 t2 t3
   obtain⟨ht1,ht2,ht3⟩:=hts t (by rw[←ht];exact List.getElem_mem hlt)
   have Hi:=zh (show ts.drop m=t::ts.drop (m+1)by rw[List.drop_eq_getElem_cons hlt,ht])
   clear ht hgb H4
   have H1:Calls Tryz.prog 91 #[.agg #[.int .i64 t.pos,.int .i64 t.kind,.string ⟨t.s.toArray⟩,.int .i64 t.n]] (wr.alloc (.cells #[.int .i64 t.pos,.int .i64 t.kind,.string ⟨t.s.toArray⟩,.int .i64 t.n] 133)) fun e w'=>
     e=.returned (.tuple #[.string ⟨(Lx.written t).1.toArray⟩,.bool (Lx.written t).2])∧(wr.alloc (.cells #[.int .i64 t.pos,.int .i64 t.kind,.string ⟨t.s.toArray⟩,.int .i64 t.n] 133)).grownBy w' none∧Below w.heap.size w w'∧Bld w.heap.size w.heap.size b w':=
    (zmyZ t _ ((hG.below hb).alloc _) (by have:=hb.size;simp;omega) ht1 ht2 ht3).mono fun e w' h=>⟨h.1,h.2,zeZ (((zbfZ hb).trans (World.grownBy_alloc _ _ _)).trans h.2),(hB.kept (World.grownBy_alloc _ _ _)).kept h.2⟩
   have Hk:=Lx.written_len t ht1 ht3
   obtain⟨x,hx⟩:=zE ((Lx.written t).1)
   rw[hx]at H1 Hk
   have Hh:=zh hx
   clear hx
   have H6:Lx.joinFrom m b (ts.drop m)=if(Lx.written t).2 then Lx.joinFrom (m+1) (Lx.joinStep m b x) (ts.drop (m+1))else none:=by
    rw[Hi.o];show(if(Lx.written t).2 then Lx.joinFrom (m+1) (Lx.joinStep m b (Lx.written t).1) (ts.drop (m+1))else none)=_
    rw[Hh.o]
   have Hc:=zh (HE.o.symm.trans H6)
   clear H6
   cases hok:(Lx.written t).2 with
   | false=>
    have HR:=zh (show Lx.join ts=([],1)by rw[HJ.o,Hc.o,hok];rfl)
    rw[hok]at H1
    clear hok
    go_wp2_with (go_at_call 91;refine H1.mono ?_;clear H1;rintro e w5 ⟨rfl,H8,H2,hB5⟩;have H7:=H2.size)
    refine bodyPost_ret (results_tmp2 rfl _ _ _) rfl ?_
    rw[HR.o]
    exact⟨rfl,H2⟩
   | true=>
    have HR:=zh (show Lx.joinFrom (m+1) (Lx.joinStep m b x) (ts.drop (m+1))=Lx.joinFrom 0 [] ts by rw[Hc.o,hok];rfl)
    rw[hok]at H1
    clear hok
    by_cases hbig:65536<b.length
    ·have Ha:(65536:Int)<(b.length:Int):=by omega
     have H3:Lx.joinStep m b x=b:=by unfold Lx.joinStep;rw[if_pos hbig]
     rw[H3]at HR
     clear H3
     go_wp2_with (first | (go_at_call 91;refine H1.mono ?_;clear H1;rintro e w5 ⟨rfl,H8,H2,hB5⟩;have H7:=H2.size) | (go_at_call 92;refine(zecZ _ _ _ _ hB5).mono ?_;rintro e w' ⟨rfl,rfl⟩))
     go_roundg (ts.length-(m+1))
     case measure=>have:=HN.o;omega
     case rel=>exact⟨m+1,b,rfl,by simp,hlt,hB5,H2,hbl,HR.o⟩
    ·have Ha:¬(65536:Int)<(b.length:Int):=by omega
     by_cases hm0:0<m
     ·have Hb:(0:Int)<(m:Int):=by omega
      have H3:Lx.joinStep m b x=b++[32]++x:=by unfold Lx.joinStep;rw[if_neg hbig,if_pos hm0]
      rw[H3]at HR
      clear H3
      go_wp2_with (first | (go_at_call 91;refine H1.mono ?_;clear H1;rintro e w5 ⟨rfl,H8,H2,hB5⟩;have H7:=H2.size) | (go_at_call 92;refine(zecZ _ _ _ _ hB5).mono ?_;rintro e w' ⟨rfl,rfl⟩) | (go_at_call 93;refine(zdlZ w.heap.size w.heap.size b 32 _ hB5 (by omega) H7).mono ?_;rintro e w6 ⟨rfl,h6,He⟩) | (go_at_call 94;refine(zjsZ w.heap.size w.heap.size (b++[32]) ⟨x.toArray⟩ _ h6 (by show(b++[32]).length+x.length≤_;simp;omega) (by have:=He.size;omega)).mono ?_;rintro e w7 ⟨rfl,h7,H9⟩))
      go_roundg (ts.length-(m+1))
      case measure=>have:=HN.o;omega
      case rel=>exact⟨m+1,_,rfl,by simp,hlt,h7,(H2.trans He).trans H9,by show(b++[32]++x).length≤_;simp;omega,HR.o⟩
     ·have Hb:¬(0:Int)<(m:Int):=by omega
      have H3:Lx.joinStep m b x=b++x:=by unfold Lx.joinStep;rw[if_neg hbig,if_neg hm0]
      rw[H3]at HR
      clear H3
      go_wp2_with (first | (go_at_call 91;refine H1.mono ?_;clear H1;rintro e w5 ⟨rfl,H8,H2,hB5⟩;have H7:=H2.size) | (go_at_call 92;refine(zecZ _ _ _ _ hB5).mono ?_;rintro e w' ⟨rfl,rfl⟩) | (go_at_call 94;refine(zjsZ w.heap.size w.heap.size b ⟨x.toArray⟩ _ hB5 (by show b.length+x.length≤_;omega) H7).mono ?_;rintro e w7 ⟨rfl,h7,H9⟩))
      go_roundg (ts.length-(m+1))
      case measure=>have:=HN.o;omega
      case rel=>exact⟨m+1,_,rfl,by simp,hlt,h7,H2.trans H9,by show(b++x).length≤_;simp;omega,HR.o⟩
  ·have Hj:m=ts.length:=by omega
   have hi:¬(m:Int)<(ts.length:Int):=by omega
   have H6:Lx.joinFrom 0 [] ts=some b:=by
    rw[←HE.o,List.drop_eq_nil_of_le (by omega)];rfl
   have HR:=zh (show Lx.join ts=if 65536<b.length then([],2)else if 4096<ts.length then([],3)else(b,0)by rw[HJ.o,H6])
   clear H6 Hj
   have hB5:=hB
   by_cases hbig:65536<b.length
   ·have Ha:(65536:Int)<(b.length:Int):=by omega
    have H5:=zh (show Lx.join ts=([],2)by rw[HR.o,if_pos hbig])
    go_wp2_with (first | (go_at_call 92;refine(zecZ _ _ _ _ hB5).mono ?_;rintro e w' ⟨rfl,rfl⟩))
    refine bodyPost_ret (results_tmp2 rfl _ _ _) rfl ?_
    rw[H5.o]
    exact⟨rfl,hb⟩
   ·have Ha:¬(65536:Int)<(b.length:Int):=by omega
    by_cases hmany:4096<ts.length
    ·have Hg:(4096:Int)<(ts.length:Int):=by omega
     have H5:=zh (show Lx.join ts=([],3)by rw[HR.o,if_neg hbig,if_pos hmany])
     go_wp2_with (first | (go_at_call 92;refine(zecZ _ _ _ _ hB5).mono ?_;rintro e w' ⟨rfl,rfl⟩))
     refine bodyPost_ret (results_tmp2 rfl _ _ _) rfl ?_
     rw[H5.o]
     exact⟨rfl,hb⟩
    ·have Hg:¬(4096:Int)<(ts.length:Int):=by omega
     have H5:=zh (show Lx.join ts=(b,0)by rw[HR.o,if_neg hbig,if_neg hmany])
     go_wp2_with (first | (go_at_call 92;refine(zecZ _ _ _ _ hB5).mono ?_;rintro e w' ⟨rfl,rfl⟩) | (go_at_call 95;refine(Tryz.Builder_String_any w.heap.size w.heap.size _ _ hB5 hb.size).mono ?_;rintro e w4 ⟨rfl,Hn⟩))
     refine bodyPost_ret (results_tmp2 rfl _ _ _) rfl ?_
     rw[H5.o]
     exact⟨rfl,hb.trans Hn⟩
theorem ToksIn.below {w w':World} {v:Value} {ts:List Lx.Tok} (h:ToksIn w v ts) (hb:Below w.heap.size w w'):ToksIn w' v ts:=by
 rcases h with h | ⟨g,c,cur,fr,h1,h2,h3⟩
 ·exact .inl h
 ·exact .inr ⟨g,c,cur,fr,h1,(hb.block g (zaZ h2)).trans h2,h3⟩
theorem ToksIn.slice {w:World} {v:Value} {ts:List Lx.Tok} (h:ToksIn w v ts):∃a c,v=.slice a ts.length c:=by
 rcases h with⟨rfl,a,c,rfl⟩ | ⟨g,c,cur,fr,rfl,_⟩
 ·exact⟨a,c,rfl⟩
 ·exact⟨_,c,rfl⟩
theorem ToksIn.at {w:World} {ts:List Lx.Tok} {a:Option Addr} {c m:Nat} (h:ToksIn w (.slice a ts.length c) ts) (hm:m<ts.length):∃g cur fr,a=some ⟨g,0,none⟩∧w.heap[g]? =some (.cells cur 133 fr)∧cur.toList.take (ts.length * 4)=ts.flatMap cellsT:=by
 rcases h with⟨h,_⟩ | ⟨g,c,cur,fr,h,h1,h2⟩
 ·rw[h]at hm;simp at hm
 ·injection h with h _ _;exact⟨g,cur,fr,h,h1,h2⟩
theorem Below.drewN {B:Nat} {w W:World} (h:Below B w W) (n:Nat):Below B w (W.drewN n):=⟨h.os,h.tape,h.output,h.size,h.block⟩
theorem zduZ {α:Type} {ts us:List α} {m:Nat} (h:ts.take m=us.take m) (h1:m<ts.length) (h2:m<us.length) (e:ts[m]=us[m]):ts.take (m+1)=us.take (m+1):=by
 rw[List.take_succ_eq_append_getElem h1,List.take_succ_eq_append_getElem h2,h,e]
structure GL (w:World):Prop where
 gs:GS w
theorem GL.below {w w':World} (h:GL w) (hb:Below w.heap.size w w'):GL w':=⟨h.gs.below hb⟩
theorem GL.alloc {w:World} (h:GL w) (o:Obj):GL (w.alloc o):=h.below (zeZ (World.grownBy_alloc _ _ _))
structure LW (w W:World):Prop where
 b:Below w.heap.size w W
 g:GL W
 n:NG≤W.heap.size
theorem LW.refl {w:World} (hG:GL w) (hN:NG≤w.heap.size):LW w w:=⟨Below.refl _ _,hG,hN⟩
theorem LW.go {w W W':World} (h:LW w W) (hb:Below W.heap.size W W'):LW w W':=
 ⟨h.b.trans (hb.mono h.b.size),h.g.below hb,Nat.le_trans h.n hb.size⟩
theorem LW.alloc {w W:World} (h:LW w W) (o:Obj):LW w (W.alloc o):=h.go (zeZ (World.grownBy_alloc _ _ _))
theorem LW.drewN {w W:World} (h:LW w W) (n:Nat):LW w (W.drewN n):=h.go (Below.drewN (Below.refl _ _) n)
end Go.Proofs.YtdncljdfmdgdaaaGreatDoor
