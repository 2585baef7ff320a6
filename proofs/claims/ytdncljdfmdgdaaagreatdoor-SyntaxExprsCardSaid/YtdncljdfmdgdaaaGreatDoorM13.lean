/-
  Plain laws: what a writer tells is the tokens with one blank between each two.
-/
import Derived.Test.YtdncljdfmdgdaaaGreatDoorM1
import Derived.Test.YtdncljdfmdgdaaaGreatDoorM10
import Derived.Test.YtdncljdfmdgdaaaGreatDoorM12
set_option linter.unusedSimpArgs false
set_option linter.unusedVariables false
set_option maxRecDepth 100000
set_option maxHeartbeats 4000000
namespace Go.Proofs.YtdncljdfmdgdaaaGreatDoor.Sx
open Go.Proofs.YtdncljdfmdgdaaaGreatDoor.Lx (Bytes)
def textFrom:Nat→Bytes→List Bytes→Option Bytes
 | _,b,[]=>some b
 | i,b,s::l=>
  if 65536<((if 0<i then b++[32]else b)++s).length then none
  else textFrom (i+1) ((if 0<i then b++[32]else b)++s) l
def text (l:List Bytes):Bytes×Nat:=
 match textFrom 0 [] l with
 | none=>([],2)
 | some b=>if 4096<l.length then([],3)else(b,0)
theorem puts_cons (w:Wr) (s:Bytes) (l:List Bytes):puts w (s::l)=puts (put w s) l:=rfl
theorem puts_n:∀(l:List Bytes) (w:Wr),(puts w l).n=w.n+l.length
 | [],w=>rfl
 | s::l,w=>by rw[puts_cons,puts_n l];simp[put];omega
theorem ziiZ:∀(l:List Bytes) (w:Wr),65536<w.b.length→65536<(puts w l).b.length
 | [],w,h=>h
 | s::l,w,h=>by
  rw[puts_cons]
  refine ziiZ l _ ?_
  unfold put
  rw[if_pos h]
  exact h
theorem zijZ:∀(l:List Bytes) (b:Bytes) (i:Nat),(∀s∈l,s≠[])→b.length≤65536→(0<i↔0<b.length)→
  (textFrom i b l=none→65536<(puts ⟨b,i⟩ l).b.length)∧(∀c,textFrom i b l=some c→(puts ⟨b,i⟩ l).b=c∧c.length≤65536)
 | [],b,i,_,hb,_=>⟨fun h=>by simp[textFrom]at h,fun c h=>by simp only[textFrom]at h;injection h with h;subst h;exact⟨rfl,hb⟩⟩
 | s::l,b,i,hs,hb,hi=>by
  have H0:put ⟨b,i⟩ s=⟨(if 0<i then b++[32]else b)++s,i+1⟩:=by
   unfold put
   rw[if_neg (by simp only;omega)]
   by_cases h:0<i
   ·rw[if_pos h,if_pos (hi.1 h)]
   ·rw[if_neg h,if_neg (fun h'=>h (hi.2 h'))]
  rw[puts_cons,H0,textFrom]
  have H1:s≠[]:=hs s (List.mem_cons_self ..)
  have H2:0<s.length:=List.length_pos_iff.2 H1
  by_cases hlong:65536<((if 0<i then b++[32]else b)++s).length
  ·rw[if_pos hlong]
   exact⟨fun _=>ziiZ l _ hlong,fun c h=>by cases h⟩
  ·rw[if_neg hlong]
   refine zijZ l _ (i+1) (fun x hx=>hs x (List.mem_cons_of_mem _ hx)) (by omega) ⟨fun _=>?_,fun _=>by omega⟩
   rw[List.length_append]
   omega
theorem told_text {l:List Bytes} (hs:∀s∈l,s≠[]):told true (puts ⟨[],0⟩ l)=text l:=by
 have h:=zijZ l [] 0 hs (by simp) (by simp)
 have hn:=puts_n l ⟨[],0⟩
 unfold told text
 simp only[Bool.not_true,Bool.false_eq_true,if_false]
 cases ht:textFrom 0 [] l with
 | none=>
  rw[if_pos (h.1 ht)]
 | some c=>
  obtain⟨h1,h2⟩:=h.2 c ht
  rw[h1,hn]
  simp only
  rw[if_neg (by omega)]
  simp
end Go.Proofs.YtdncljdfmdgdaaaGreatDoor.Sx
namespace Go.Proofs.YtdncljdfmdgdaaaGreatDoor
open Go.RowKit Go.Shelf Go.WideMaps
theorem ztmZ : Tryz.prog.cellsOf 5 =1:=by kernel_rfl
theorem zofZ (B b:Nat) (x:Sx.Wr) (w:World) (h:Wri B b x w) :
  Calls Tryz.prog 95 #[.pointer (some ⟨b,0,none⟩)] w fun e w'=>e=.returned (.string ⟨x.b.toArray⟩)∧Below B w w':=by
 obtain⟨hB,p,v,hb,hp,ho,hx⟩:=h
 by_cases h0:x.b=[]
 ·obtain rfl:=hx h0
  rw[h0]
  have hUS:∀(W:World) (q:Option Addr),(Builtin.unsafeString_ #[174, 3] 9 #[.pointer q,.int .i64 0]).run Tryz.prog W=.ok (.string .empty) W:=fun W q=>Lib.run_unsafeString_none _ _ _ _ _
  have c1:w.drew.cell? ⟨b,1,none⟩=some (.slice none 0 0):=zdZ (show w.drew.heap[b]? =_ from hb) 1
  have hSD:(Builtin.unsafeSliceData_ #[98] 174 #[.slice none 0 0]).run Tryz.prog w.drew=.ok (.pointer none) w.drew:=rfl
  go_enter Tryz.func95, Tryz.ntmps95
  go_wp2
  go_region
  all_goals (go_wp2;go_ret;exact⟨rfl,Below.drew (Below.refl B w)⟩)
 ·obtain⟨l,hl⟩:∃l,x.b=l:=⟨_,rfl⟩
  rw[hl]at ho h0 ⊢
  have H1:l.length≠0:=by simpa using h0
  obtain⟨g,cap,cur,rfl,hbg,hg,hnc,hcm,hcs,htake⟩:∃g cap cur,v=.slice (some ⟨g,0,none⟩) l.length cap∧B≤g∧w.heap[g]? =some (.cells cur 5 (0,0))∧l.length≤cap∧cap≤maxLen∧cur.size=cap * 1∧cur.toList.take (l.length * 1)=bytesV l:=by
   rcases ho.2 with⟨_,hz⟩ | ⟨g,cap,cur,hv,r⟩
   ·exact absurd hz H1
   ·exact⟨g,cap,cur,hv,r⟩
  have c1:w.drew.cell? ⟨b,1,none⟩=some (.slice (some ⟨g,0,none⟩) l.length cap):=zdZ (show w.drew.heap[b]? =_ from hb) 1
  have hSD:(Builtin.unsafeSliceData_ #[98] 174 #[.slice (some ⟨g,0,none⟩) l.length cap]).run Tryz.prog w.drew=.ok (.pointer (some ⟨g,0,none⟩)) w.drew:=
   Lib.run_unsafeSliceData_row _ _ _ _ _ _ (by omega)
  have hUS:(Builtin.unsafeString_ #[174, 3] 9 #[.pointer (some ⟨g,0,none⟩),.int .i64 l.length]).run Tryz.prog w.drew=.ok (.string ⟨l.toArray⟩) (w.drew.freeze ⟨g,0,none⟩ l.length):=by
   refine Lib.run_unsafeString_row w.drew 174 3 9 5 Tryz.underlying174 ztmZ g cur.size (by have H0:w.drew.heap[g]? =some (.cells cur 5 (0,0)):=hg;simp[World.shape?,H0]) l h0 (by omega) (by unfold maxLen at hcm;omega) ?_
   intro j y hy
   have:=World.ownsRow.cells ho (g:=g) rfl j (.int .u8 y.toNat) (by simp[bytesV,hy])
   exact this
  go_enter Tryz.func95, Tryz.ntmps95
  go_wp2
  go_region
  all_goals (go_wp2;go_ret;exact⟨rfl,Lib.below_freeze (Below.drew (Below.refl B w)) (p:=⟨g,0,none⟩) hbg _⟩)
theorem Wri.tick {B b:Nat} {x:Sx.Wr} {w:World} (h:Wri B b x w):Wri B b ⟨x.b,x.n+1⟩ (w.setCell ⟨b,2,none⟩ (.int .i64 ((x.n:Int)+1)))∧KeepW w (w.setCell ⟨b,2,none⟩ (.int .i64 ((x.n:Int)+1)))∧Below B w (w.setCell ⟨b,2,none⟩ (.int .i64 ((x.n:Int)+1))):=by
 obtain⟨hB,p,v,hb,hp,ho,hx⟩:=h
 exact⟨⟨hB,p,v,by simp[World.setCell,Array.getElem?_modify,hb],hp,zcvZ ho hb _,hx⟩,KeepW.set hb 2 _,(Below.refl B w).setCell (p:=⟨b,2,none⟩) hB _⟩
theorem Wri.cells {B b:Nat} {x:Sx.Wr} {w:World} (h:Wri B b x w):w.cell? ⟨b,2,none⟩=some (.int .i64 (x.n:Nat))∧w.frozen? ⟨b,2,none⟩=false∧b<w.heap.size∧B≤b:=by
 obtain⟨hB,p,v,hb,hp,ho,hx⟩:=h
 exact⟨zdZ hb 2,ztZ hb 2,zaZ hb,hB⟩
theorem Sx.put_len {x:Sx.Wr} {s:Lx.Bytes} (hx:x.b.length≤1000065537) (hs:s.length≤1000000000):(Sx.put x s).b.length≤1000065537:=by
 unfold Sx.put
 simp only
 split
 ·exact hx
 ·split <;> simp <;> omega
theorem Sx.puts_len:∀(l:List Lx.Bytes) (x:Sx.Wr),x.b.length≤1000065537→(∀s∈l,s.length≤1000000000)→(Sx.puts x l).b.length≤1000065537
 | [],x,hx,_=>hx
 | s::l,x,hx,hl=>by
  rw[Sx.puts_cons]
  exact Sx.puts_len l _ (Sx.put_len hx (hl s (List.mem_cons_self ..))) (fun t ht=>hl t (List.mem_cons_of_mem _ ht))
theorem Sx.puts_take {l:List Lx.Bytes} {m:Nat} (x:Sx.Wr) (h:m<l.length):Sx.puts x (l.take (m+1))=Sx.put (Sx.puts x (l.take m)) l[m]:=by
 rw[List.take_succ_eq_append_getElem h,Sx.puts_append]
 rfl
def Row (w:World) (g:Nat) (l:List Lx.Bytes):Prop:=w.heap[g]? =some (.cells (strsV l).toArray 9 (0,0))
theorem Row.at {w:World} {g m:Nat} {l:List Lx.Bytes} (h:Row w g l) (hm:m<l.length):w.cell? ⟨g,m,none⟩=some (.string ⟨(l[m]'hm).toArray⟩):=by
 rw[zdZ h]
 simp[strsV,hm]
theorem zvdZ (B b g:Nat) (l:List Lx.Bytes) (x:Sx.Wr) (w:World) (h:Wri B b x w) (hl:Row w g l) (hs:∀s∈l,s≠[]∧s.length≤1000000000) (hx:x.b.length≤1000065537) (hn:x.n+l.length≤1000000000) (hBw:B≤w.heap.size) :
  Calls Tryz.prog 100 #[.pointer (some ⟨b,0,none⟩),.slice (some ⟨g,0,none⟩) l.length l.length] w fun e w'=>e=.returned (.tuple #[])∧Wri B b (Sx.puts x l) w'∧Below B w w'∧KeepW w w':=by
 have H:=zh h
 have HL:=zh hl
 have HS:=zh hs
 clear h hl hs
 go_enter Tryz.func100, Tryz.ntmps100
 go_wp2_with fail
 go_loopg [8] (l.length) (fun i v wr=>∃(m:Nat),i=l.length-m∧v=.int .i64 (m:Int)∧m≤l.length∧Wri B b (Sx.puts x (l.take m)) wr∧Below B w wr∧KeepW w wr)
 case atStart=>exact⟨0,rfl,rfl,Nat.zero_le _,H.o,Below.refl _ _,KeepW.refl _⟩
 case round=>
  obtain⟨m,hi,rfl,hm,hW,hb,hk⟩:=hrel
  have HI:=zh hi
  have HB:=zh hb
  have HK:=zh hk
  have m0:(0:Int)≤(m:Int):=by omega
  by_cases hlt:m<l.length
  ·have Hq:(m:Int)<(l.length:Int):=by omega
   have Hy:(m:Int)≤1000000000:=by omega
   obtain⟨y,hy⟩:=zE (Sx.puts x (l.take m))
   have He:y.n=x.n+m:=by rw[←hy,Sx.puts_n];simp;omega
   have Hl:y.b.length≤1000065537:=by rw[←hy];exact Sx.puts_len _ _ hx (fun s hs=>(HS.o s (List.mem_of_mem_take hs)).2)
   have H4:=Sx.puts_take x hlt
   rw[hy]at hW H4
   have hr:Row wr g l:=hk _ _ _ _ HL.o (by decide) (by decide)
   have hc:=hr.at hlt
   have Hv:=zaZ hr
   obtain⟨s,hse⟩:=zE (l[m]'hlt)
   rw[hse]at hc H4
   have H5:=HS.o s (by rw[←hse];exact List.getElem_mem hlt)
   have Hr:=H5.2
   have Ha:=H5.1
   obtain⟨c2,f2,hbl,hBb⟩:=hW.cells
   have Hs:(y.n:Int)≤1000000000:=by omega
   have Ho:(0:Int)≤(y.n:Int):=by omega
   have Hw:=hb.size
   have HT:=zh hW.tick
   have H8:=zh H4
   have HY:=zh hy
   have Ht:=zh He
   have Hx:=zh hse
   have Hb:=zh Ha
   obtain⟨yb,hyb⟩:=zE (y.b.length)
   have H0:=zh hyb
   have Hp:yb≤1000065537:=by omega
   have Hj:(0:Int)≤(yb:Int):=by omega
   have H2:(wr.setCell ⟨b,2,none⟩ (.int .i64 ((y.n:Int)+1))).heap.size=wr.heap.size:=by simp[World.setCell]
   have H3:∀W,Wri B b ⟨y.b,y.n+1⟩ W→Calls Tryz.prog 92 #[.pointer (some ⟨b,0,none⟩)] W fun e w'=>e=.returned (.int .i64 (yb:Nat))∧w'=W:=fun W hW=>by
    have:=zodZ B b _ W hW
    rwa [H0.o]at this
   have H1:=zh H3
   clear hi hb hk hW hy He H4 hr hse H5 Ha H3 hyb Hl
   by_cases hbig:65536<yb
   ·have Hi:(65536:Int)<(yb:Int):=by omega
    have Hf:=zh hbig
    clear hbig
    go_wp2_with (go_at_call 92;refine(H1.o _ HT.o.1).mono ?_;rintro e W3 ⟨rfl,rfl⟩)
    go_roundg (l.length-(m+1))
    case measure=>have:=HI.o;omega
    case rel=>
     refine⟨m+1,rfl,by simp,hlt,?_,HB.o.trans HT.o.2.2,HK.o.trans HT.o.2.1⟩
     rw[H8.o]
     unfold Sx.put
     rw[if_pos (by rw[H0.o];exact Hf.o)]
     exact HT.o.1
   ·have Hi:(yb:Int)≤(65536:Int):=by omega
    have Hf:=zh hbig
    clear hbig
    by_cases hz:yb=0
    ·subst hz
     have hw:∀W,Wri B b ⟨y.b,y.n+1⟩ W→wr.heap.size≤W.heap.size→Calls Tryz.prog 94 #[.pointer (some ⟨b,0,none⟩),.string ⟨s.toArray⟩] W fun e w'=>(∃u,e=.returned u)∧Wri B b ⟨y.b++s,y.n+1⟩ w'∧Below B W w'∧KeepW W w':=fun W hW hWs=>zoeZ B b ⟨y.b,y.n+1⟩ s W hW Hb.o (by have:=H0.o;simp;omega) (by omega)
     have HW:=zh hw
     clear hw
     go_wp2_with (first
      | (go_at_call 92;refine(H1.o _ HT.o.1).mono ?_;rintro e W3 ⟨rfl,rfl⟩)
      | (go_at_call 94;refine(HW.o _ HT.o.1 (by rw[H2];exact Nat.le_refl _)).mono ?_;rintro e W3 ⟨⟨u,rfl⟩,hW3,H7,H6⟩))
     go_roundg (l.length-(m+1))
     case measure=>have:=HI.o;omega
     case rel=>
      refine⟨m+1,rfl,by simp,hlt,?_,(HB.o.trans HT.o.2.2).trans H7,(HK.o.trans HT.o.2.1).trans H6⟩
      rw[H8.o]
      unfold Sx.put
      rw[if_neg (by rw[H0.o];omega),if_neg (by rw[H0.o];omega)]
      exact hW3
    ·have Hu:(0:Int)<(yb:Int):=by omega
     have HZ:=zh hz
     clear hz
     have Hd:∀W,Wri B b ⟨y.b,y.n+1⟩ W→wr.heap.size≤W.heap.size→Calls Tryz.prog 93 #[.pointer (some ⟨b,0,none⟩),.int .u8 32] W fun e w'=>e=.returned .nilIface∧Wri B b ⟨y.b++[32],y.n+1⟩ w'∧Below B W w'∧KeepW W w':=fun W hW hWs=>ztlZ B b ⟨y.b,y.n+1⟩ 32 W hW (by have:=H0.o;simp;omega) (by omega)
     have hw:∀W,Wri B b ⟨y.b++[32],y.n+1⟩ W→wr.heap.size≤W.heap.size→Calls Tryz.prog 94 #[.pointer (some ⟨b,0,none⟩),.string ⟨s.toArray⟩] W fun e w'=>(∃u,e=.returned u)∧Wri B b ⟨y.b++[32]++s,y.n+1⟩ w'∧Below B W w'∧KeepW W w':=fun W hW hWs=>zoeZ B b ⟨y.b++[32],y.n+1⟩ s W hW Hb.o (by have:=H0.o;simp;omega) (by omega)
     have Hm:=zh Hd
     have HW:=zh hw
     clear hw Hd
     go_wp2_with (first
      | (go_at_call 92;refine(H1.o _ HT.o.1).mono ?_;rintro e W3 ⟨rfl,rfl⟩)
      | (go_at_call 93;refine(Hm.o _ HT.o.1 (by rw[H2];exact Nat.le_refl _)).mono ?_;rintro e W4 ⟨rfl,hW4,H9,Hg⟩;have Hc:=H9.size;rw[H2]at Hc;have Hk:=zh H9;have Hn:=zh Hg;have Hh:=zh hW4;clear hW4 H9 Hg)
      | (go_at_call 94;refine(HW.o W4 Hh.o Hc).mono ?_;rintro e W3 ⟨⟨u,rfl⟩,hW3,H7,H6⟩))
     go_roundg (l.length-(m+1))
     case measure=>have:=HI.o;omega
     case rel=>
      refine⟨m+1,rfl,by simp,hlt,?_,((HB.o.trans HT.o.2.2).trans Hk.o).trans H7,((HK.o.trans HT.o.2.1).trans Hn.o).trans H6⟩
      rw[H8.o]
      unfold Sx.put
      rw[if_neg (by rw[H0.o];omega),if_pos (by rw[H0.o];have:=HZ.o;omega)]
      exact hW3
  ·have Hq:¬(m:Int)<(l.length:Int):=by omega
   rw[List.take_of_length_le (by omega)]at hW
   have HW:=zh hW
   clear hW hi hb hk
   go_wp2_with fail
   go_end0
   exact⟨rfl,HW.o,HB.o,HK.o⟩
theorem ztnZ (B b:Nat) (x:Sx.Wr) (r:Bool) (w:World) (h:Wri B b x w) (hx:x.b.length≤1000065537) (hn:x.n≤1000000000) :
  Calls Tryz.prog 60 #[.pointer (some ⟨b,0,none⟩),.bool r] w fun e w'=>
   e=.returned (.tuple #[.string ⟨(Sx.told r x).1.toArray⟩,.int .i64 ((Sx.told r x).2:Nat)])∧Below B w w':=by
 obtain⟨c2,f2,hbl,hB⟩:=h.cells
 have H0:=zodZ B b x w h
 have H1:=zofZ B b x w h
 obtain⟨k,hk⟩:=zE (x.b.length)
 obtain⟨n,hnn⟩:=zE (x.n)
 rw[hk]at H0
 rw[hnn]at c2
 have H6:(0:Int)≤(k:Int):=by omega
 have H8:(0:Int)≤(n:Int):=by omega
 have H5:(k:Int)≤1000065537:=by omega
 have H7:(n:Int)≤1000000000:=by omega
 have HL:=zh H0
 have HS:=zh H1
 have HK:=zh hk
 have HN:=zh hnn
 clear H0 H1 hk hnn hx hn h
 cases r with
 | false=>
  go_enter Tryz.func60, Tryz.ntmps60
  go_wp2_with fail
  refine bodyPost_ret (results_tmp2 rfl _ _ _) rfl ?_
  exact⟨rfl,Below.refl _ _⟩
 | true=>
  by_cases hbig:65536<k
  ·have H2:(65536:Int)<(k:Int):=by omega
   have ht:Sx.told true x=([],2):=by unfold Sx.told;rw[HK.o,if_pos hbig];rfl
   rw[ht]
   clear ht
   go_enter Tryz.func60, Tryz.ntmps60
   go_wp2_with (go_at_call 92;refine HL.o.mono ?_;rintro e W3 ⟨rfl,rfl⟩)
   refine bodyPost_ret (results_tmp2 rfl _ _ _) rfl ?_
   exact⟨rfl,Below.refl _ _⟩
  ·have H2:(k:Int)≤(65536:Int):=by omega
   by_cases hmany:4096<n
   ·have H4:(4096:Int)<(n:Int):=by omega
    have ht:Sx.told true x=([],3):=by unfold Sx.told;rw[HK.o,HN.o,if_neg hbig,if_pos hmany];rfl
    rw[ht]
    clear ht
    go_enter Tryz.func60, Tryz.ntmps60
    go_wp2_with (go_at_call 92;refine HL.o.mono ?_;rintro e W3 ⟨rfl,rfl⟩)
    refine bodyPost_ret (results_tmp2 rfl _ _ _) rfl ?_
    exact⟨rfl,Below.refl _ _⟩
   ·have H4:(n:Int)≤(4096:Int):=by omega
    have ht:Sx.told true x=(x.b,0):=by unfold Sx.told;rw[HK.o,HN.o,if_neg hbig,if_neg hmany];rfl
    rw[ht]
    clear ht
    go_enter Tryz.func60, Tryz.ntmps60
    go_wp2_with (first
     | (go_at_call 92;refine HL.o.mono ?_;rintro e W3 ⟨rfl,rfl⟩)
     | (go_at_call 95;refine HS.o.mono ?_;rintro e W3 ⟨rfl,H3⟩))
    refine bodyPost_ret (results_tmp2 rfl _ _ _) rfl ?_
    exact⟨rfl,H3⟩
theorem Row.new (w:World) (l:List Lx.Bytes):Row (w.alloc (.cells (strsV l).toArray 9)) w.heap.size l:=heap_alloc_new w _
theorem Wri.grown {B b:Nat} {x:Sx.Wr} {w w':World} (h:Wri B b x w) (hg:w.grownBy w' none):Wri B b x w':=by
 obtain⟨hB,p,v,hb,hp,ho,hx⟩:=h
 exact⟨hB,p,v,(hg.block b (zaZ hb) (fun e=>nomatch e)).trans hb,hp,World.ownsRow.kept ho hg (by cases v.ownBlock <;> simp),hx⟩
structure Wrote (W0:World) (b c:Nat) (l:List Lx.Bytes) (w:World):Prop where
 wri:Wri W0.heap.size b (Sx.puts ⟨[],0⟩ l) w
 below:Below W0.heap.size W0 w
 good:∀s∈l,s.length≤1000000000
 cnt:l.length≤c
theorem Wrote.grown {W0 w w':World} {b c:Nat} {l:List Lx.Bytes} (h:Wrote W0 b c l w) (hg:w.grownBy w' none):Wrote W0 b c l w':=
 ⟨h.wri.grown hg,h.below.grown hg h.below.size (fun j e=>nomatch e),h.good,h.cnt⟩
theorem Wrote.lt {W0 w:World} {b c:Nat} {l:List Lx.Bytes} (h:Wrote W0 b c l w):b<w.heap.size:=h.wri.cells.2.2.1
theorem Wrote.mono {W0 w:World} {b c d:Nat} {l:List Lx.Bytes} (h:Wrote W0 b c l w) (hd:c≤d):Wrote W0 b d l w:=⟨h.wri,h.below,h.good,Nat.le_trans h.cnt hd⟩
theorem Wrote.cast {W0 w:World} {b c:Nat} {l m:List Lx.Bytes} (h:Wrote W0 b c l w) (e:l=m):Wrote W0 b c m w:=e▸h
theorem KeepW.alloc (w:World) (o:Obj):KeepW w (w.alloc o):=KeepW.grown (World.grownBy_alloc w o none) (fun j e=>nomatch e)
theorem zogZ {W0 w:World} {b c:Nat} {l m:List Lx.Bytes} (h:Wrote W0 b c l w) (hs:∀s∈m,s≠[]∧s.length≤1000000000) (hn:c+m.length≤1000000000) :
  Calls Tryz.prog 100 #[.pointer (some ⟨b,0,none⟩),.slice (some ⟨w.heap.size,0,none⟩) m.length m.length] (w.alloc (.cells (strsV m).toArray 9)) fun e w'=>
   e=.returned (.tuple #[])∧Wrote W0 b (c+m.length) (l++m) w'∧KeepW w w':=by
 have hg:w.grownBy (w.alloc (.cells (strsV m).toArray 9)) none:=World.grownBy_alloc w _ none
 have hc:=h.cnt
 refine(zvdZ W0.heap.size b w.heap.size m (Sx.puts ⟨[],0⟩ l) _ (h.wri.grown hg) (Row.new w m) hs (Sx.puts_len l _ (by simp) h.good) (by rw[Sx.puts_n];simp;omega) (Nat.le_trans h.below.size hg.size)).mono ?_
 rintro e w' ⟨he,h1,h2,h3⟩
 refine⟨he,⟨?_,(h.below.grown hg h.below.size (fun j e=>nomatch e)).trans h2,?_,?_⟩,(KeepW.grown hg (fun j e=>nomatch e)).trans h3⟩
 ·rw[Sx.puts_append];exact h1
 ·intro s hm
  rcases List.mem_append.1 hm with h' | h'
  ·exact h.good s h'
  ·exact(hs s h').2
 ·rw[List.length_append];omega
theorem put1 {W0 w:World} {b c:Nat} {l:List Lx.Bytes} {s:Lx.Bytes} (h:Wrote W0 b c l w) (hs:s≠[]∧s.length≤1000000000) (hn:c+1≤1000000000) :
  Calls Tryz.prog 100 #[.pointer (some ⟨b,0,none⟩),.slice (some ⟨w.heap.size,0,none⟩) 1 1] (w.alloc (.cells #[.string ⟨s.toArray⟩] 9)) fun e w'=>
   e=.returned (.tuple #[])∧Wrote W0 b (c+1) (l++[s]) w'∧KeepW w w':=
 zogZ (m:=[s]) h (by simpa using hs) hn
theorem put2 {W0 w:World} {b c:Nat} {l:List Lx.Bytes} {s t:Lx.Bytes} (h:Wrote W0 b c l w) (hs:s≠[]∧s.length≤1000000000) (ht:t≠[]∧t.length≤1000000000) (hn:c+2≤1000000000) :
  Calls Tryz.prog 100 #[.pointer (some ⟨b,0,none⟩),.slice (some ⟨w.heap.size,0,none⟩) 2 2] (w.alloc (.cells #[.string ⟨s.toArray⟩,.string ⟨t.toArray⟩] 9)) fun e w'=>
   e=.returned (.tuple #[])∧Wrote W0 b (c+2) (l++[s,t]) w'∧KeepW w w':=
 zogZ (m:=[s,t]) h (by simpa using⟨hs,ht⟩) hn
theorem zemZ {W0 w:World} {b c:Nat} {l:List Lx.Bytes} (i:Nat) (h:Wrote W0 b c l w) (hi:i≤1000000000) (hn:c+1≤1000000000) :
  Calls Tryz.prog 131 #[.pointer (some ⟨b,0,none⟩),.int .i64 (i:Nat)] w fun e w'=>
   e=.returned (.tuple #[])∧Wrote W0 b (c+1) (l++(if 0<i then [[44]]else [])) w'∧KeepW w w':=by
 have H:=zh h
 clear h
 have H0:=H.o.lt
 by_cases h0:i=0
 ·subst h0
  go_enter Tryz.func131, Tryz.ntmps131
  go_wp2_with fail
  go_end0
  exact⟨rfl,by simpa using H.o.mono (Nat.le_succ _),KeepW.refl _⟩
 ·have H1:(0:Int)<(i:Int):=by omega
  rw[if_pos (by omega)]
  go_enter Tryz.func131, Tryz.ntmps131
  go_wp2_with (go_at_call 100;refine(put1 (s:=[44]) H.o ⟨by simp,by simp⟩ hn).mono ?_;rintro e w' ⟨rfl,h1,h2⟩)
  go_end0
  exact⟨rfl,h1,h2⟩
end Go.Proofs.YtdncljdfmdgdaaaGreatDoor
