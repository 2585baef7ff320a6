/-
  Package syntax's writer: what String, put, comma and told do to it.
-/
import Derived.Test.YtdncljdfmdgdaaaGreatDoorM8
set_option linter.unusedSimpArgs false
set_option linter.unusedVariables false
set_option maxRecDepth 100000
set_option maxHeartbeats 8000000
namespace Go.Proofs.YtdncljdfmdgdaaaGreatDoor
open Go.RowKit Go.Shelf Go.WideMaps
theorem zuwZ : Tryz.prog.cellsOf 5 =1:=by kernel_rfl
theorem zplZ (B b:Nat) (x:Sx.Wr) (w:World) (h:Wri B b x w) :
  Calls Tryz.prog 95 #[.pointer (some ⟨b,0,none⟩)] w fun e w'=>e=.returned (.string ⟨x.b.toArray⟩)/\Below B w w':=by
 obtain⟨hB,p,v,hb,hp,ho,hx⟩:=h;by_cases h0:x.b=[]
 ·obtain rfl:=hx h0;rw[h0];have hUS:∀(W:World) (q:Option Addr),(Builtin.unsafeString_ #[174, 3] 9 #[.pointer q,.int .i64 0]).run Tryz.prog W=.ok (.string .empty) W:=fun W q=>Lib.run_unsafeString_none _ _ _ _ _;have c1:w.drew.cell? ⟨b,1,none⟩=some (.slice none 0 0):=zdZ (show w.drew.heap[b]? =_ from hb) 1;have hSD:(Builtin.unsafeSliceData_ #[98] 174 #[.slice none 0 0]).run Tryz.prog w.drew=.ok (.pointer none) w.drew:=rfl;go_enter Tryz.func95, Tryz.ntmps95;go_wp2
  go_region
  all_goals (go_wp2;go_ret;exact⟨rfl,Below.drew (yqZ B w)⟩)
 ·obtain⟨l,hl⟩:∃l,x.b=l:=⟨_,rfl⟩;rw[hl]at ho h0 ⊢;have H1:l.length≠0:=(by simpa using h0);obtain⟨g,cap,cur,rfl,hbg,hg,hnc,hcm,hcs,htake⟩:∃g cap cur,v=.slice (some ⟨g,0,none⟩) l.length cap/\B<=g/\w.heap[g]? =some (.cells cur 5 (0,0))/\l.length<=cap/\cap<=maxLen/\cur.size=cap * 1/\cur.toList.take (l.length * 1)=bytesV l:=by
   rcases ho.2 with⟨_,hz⟩ | ⟨g,cap,cur,hv,r⟩
   ·exact absurd hz H1
   ·exact⟨g,cap,cur,hv,r⟩
  have c1:w.drew.cell? ⟨b,1,none⟩=some (.slice (some ⟨g,0,none⟩) l.length cap):=zdZ (show w.drew.heap[b]? =_ from hb) 1;have hSD:(Builtin.unsafeSliceData_ #[98] 174 #[.slice (some ⟨g,0,none⟩) l.length cap]).run Tryz.prog w.drew=.ok (.pointer (some ⟨g,0,none⟩)) w.drew:=
   Lib.run_unsafeSliceData_row _ _ _ _ _ _ (by omega)
  have hUS:(Builtin.unsafeString_ #[174, 3] 9 #[.pointer (some ⟨g,0,none⟩),.int .i64 l.length]).run Tryz.prog w.drew=.ok (.string ⟨l.toArray⟩) (w.drew.freeze ⟨g,0,none⟩ l.length):=(by refine Lib.run_unsafeString_row w.drew 174 3 9 5 Tryz.underlying174 zuwZ g cur.size (by have H0:w.drew.heap[g]? =some (.cells cur 5 (0,0)):=hg;simp[World.shape?,H0]) l h0 (by omega) (by unfold maxLen at hcm;omega) ?_;intro j y hy;have:=World.ownsRow.cells ho (g:=g) rfl j (.int .u8 y.toNat) (by simp[bytesV,hy]);exact this);go_enter Tryz.func95, Tryz.ntmps95;go_wp2
  go_region
  all_goals (go_wp2;go_ret;exact⟨rfl,Lib.below_freeze (Below.drew (yqZ B w)) (p:=⟨g,0,none⟩) hbg _⟩)
theorem Wri.tick {B b:Nat} {x:Sx.Wr} {w:World} (h:Wri B b x w):Wri B b ⟨x.b,x.n+1⟩ (w.setCell ⟨b,2,none⟩ (.int .i64 ((x.n:Int)+1)))/\KeepW w (w.setCell ⟨b,2,none⟩ (.int .i64 ((x.n:Int)+1)))/\Below B w (w.setCell ⟨b,2,none⟩ (.int .i64 ((x.n:Int)+1))):=by
 obtain⟨hB,p,v,hb,hp,ho,hx⟩:=h;exact⟨⟨hB,p,v,by simp[World.setCell,Array.getElem?_modify,hb],hp,zczZ ho hb _,hx⟩,KeepW.set hb 2 _,(yqZ B w).setCell (p:=⟨b,2,none⟩) hB _⟩
theorem Wri.cells {B b:Nat} {x:Sx.Wr} {w:World} (h:Wri B b x w):w.cell? ⟨b,2,none⟩=some (.int .i64 (x.n:Nat))/\w.frozen? ⟨b,2,none⟩=false/\b<w.heap.size/\B<=b:=by
 obtain⟨hB,p,v,hb,hp,ho,hx⟩:=h;exact⟨zdZ hb 2,zsZ hb 2,zaZ hb,hB⟩
theorem Sx.put_len {x:Sx.Wr} {s:Lx.Bytes} (hx:x.b.length<=1000065537) (hs:s.length<=1000000000):(Sx.put x s).b.length<=1000065537:=by
 unfold Sx.put;simp only;split
 ·exact hx
 ·split <;> simp <;> omega
theorem Sx.puts_len:∀(l:List Lx.Bytes) (x:Sx.Wr),x.b.length<=1000065537->(∀s∈l,s.length<=1000000000)->(Sx.puts x l).b.length<=1000065537
 | [],x,hx,_=>hx
 | s::l,x,hx,hl=>by rw[Sx.puts_cons];exact Sx.puts_len l _ (Sx.put_len hx (hl s (ysZ ..))) (fun t ht=>hl t (ywZ _ ht))
theorem Sx.puts_take {l:List Lx.Bytes} {m:Nat} (x:Sx.Wr) (h:m<l.length):Sx.puts x (l.take (m+1))=Sx.put (Sx.puts x (l.take m)) l[m]:=by
 rw[ykZ h,Sx.puts_append];rfl
def Row (w:World) (g:Nat) (l:List Lx.Bytes):Prop:=w.heap[g]? =some (.cells (strsV l).toArray 9 (0,0))
theorem Row.at {w:World} {g m:Nat} {l:List Lx.Bytes} (h:Row w g l) (hm:m<l.length):w.cell? ⟨g,m,none⟩=some (.string ⟨(l[m]'hm).toArray⟩):=by
 rw[zdZ h];simp[strsV,hm]
theorem zwpZ (B b g:Nat) (l:List Lx.Bytes) (x:Sx.Wr) (w:World) (h:Wri B b x w) (hl:Row w g l) (hs:∀s∈l,s≠[]/\s.length<=1000000000) (hx:x.b.length<=1000065537) (hn:x.n+l.length<=1000000000) (hBw:B<=w.heap.size) :
  Calls Tryz.prog 100 #[.pointer (some ⟨b,0,none⟩),.slice (some ⟨g,0,none⟩) l.length l.length] w fun e w'=>e=.returned (.tuple #[])/\Wri B b (Sx.puts x l) w'/\Below B w w'/\KeepW w w':=by
 have H:=zh h;have HL:=zh hl;have HS:=zh hs;clear h hl hs;go_enter Tryz.func100, Tryz.ntmps100;go_wp2_with fail;go_loopg [8] (l.length) (fun i v wr=>∃(m:Nat),i=l.length-m/\v=.int .i64 (m:Int)/\m<=l.length/\Wri B b (Sx.puts x (l.take m)) wr/\Below B w wr/\KeepW w wr)
 case atStart=>exact⟨0,rfl,rfl,yxZ _,H.o,yqZ _ _,KeepW.refl _⟩
 case round=>
  obtain⟨m,hi,rfl,hm,hW,hb,hk⟩:=hrel;have HI:=zh hi;have HB:=zh hb;have HK:=zh hk;have m0:(0:Int)<=(m:Int):=(by omega);by_cases hlt:m<l.length
  ·have Hh:(m:Int)<(l.length:Int):=(by omega);have Hu:(m:Int)<=1000000000:=(by omega);obtain⟨y,hy⟩:=zE (Sx.puts x (l.take m));have He:y.n=x.n+m:=(by rw[<-hy,Sx.puts_n];simp;omega);have Hl:y.b.length<=1000065537:=(by rw[<-hy];exact Sx.puts_len _ _ hx (fun s hs=>(HS.o s (List.mem_of_mem_take hs)).2));have H4:=Sx.puts_take x hlt;rw[hy]at hW H4;have hr:Row wr g l:=hk _ _ _ _ HL.o (by decide) (by decide);have hc:=hr.at hlt;have Hw:=zaZ hr;obtain⟨s,hse⟩:=zE (l[m]'hlt);rw[hse]at hc H4;have H7:=HS.o s (by rw[<-hse];exact yfZ hlt);have Hv:=H7.2;have Hc:=H7.1;obtain⟨c2,f2,hbl,hBb⟩:=hW.cells;have Hr:(y.n:Int)<=1000000000:=(by omega);have Hj:(0:Int)<=(y.n:Int):=(by omega);have Ht:=hb.size;have HT:=zh hW.tick;have H6:=zh H4;have Hd:=zh Hc;obtain⟨yb,hyb⟩:=zE (y.b.length);have H0:=zh hyb;have Hn:yb<=1000065537:=(by omega);have Ho:(0:Int)<=(yb:Int):=(by omega);have H2:(wr.setCell ⟨b,2,none⟩ (.int .i64 ((y.n:Int)+1))).heap.size=wr.heap.size:=(by simp[World.setCell]);have H3:∀W,Wri B b ⟨y.b,y.n+1⟩ W->Calls Tryz.prog 92 #[.pointer (some ⟨b,0,none⟩)] W fun e w'=>e=.returned (.int .i64 (yb:Nat))/\w'=W:=fun W hW=>by
    have:=zpjZ B b _ W hW
    rwa [H0.o]at this
   have H1:=zh H3;clear hi hb hk hW hy He H4 hr hse H7 Hc H3 hyb Hl;by_cases hbig:65536<yb
   ·have Hk:(65536:Int)<(yb:Int):=(by omega);have Ha:=zh hbig;clear hbig;go_wp2_with (go_at_call 92;refine(H1.o _ HT.o.1).mono ?_;rintro e W3 ⟨rfl,rfl⟩);go_roundg (l.length-(m+1))
    case measure=>have:=HI.o;omega
    case rel=>refine⟨m+1,rfl,by simp,hlt,?_,HB.o.trans HT.o.2.2,HK.o.trans HT.o.2.1⟩;rw[H6.o];unfold Sx.put;rw[if_pos (by rw[H0.o];exact Ha.o)];exact HT.o.1
   ·have Hk:(yb:Int)<=(65536:Int):=(by omega);have Ha:=zh hbig;clear hbig;by_cases hz:yb=0
    ·subst hz;have hw:∀W,Wri B b ⟨y.b,y.n+1⟩ W->wr.heap.size<=W.heap.size->Calls Tryz.prog 94 #[.pointer (some ⟨b,0,none⟩),.string ⟨s.toArray⟩] W fun e w'=>(∃u,e=.returned u)/\Wri B b ⟨y.b++s,y.n+1⟩ w'/\Below B W w'/\KeepW W w':=fun W hW hWs=>zpkZ B b ⟨y.b,y.n+1⟩ s W hW Hd.o (by have:=H0.o;simp;omega) (by omega);have HW:=zh hw;clear hw
     go_wp2_with (first
      | (go_at_call 92;refine(H1.o _ HT.o.1).mono ?_;rintro e W3 ⟨rfl,rfl⟩)
      | (go_at_call 94;refine(HW.o _ HT.o.1 (by rw[H2];exact ybZ _)).mono ?_;rintro e W3 ⟨⟨u,rfl⟩,hW3,H5,H8⟩))
     go_roundg (l.length-(m+1))
     case measure=>have:=HI.o;omega
     case rel=>refine⟨m+1,rfl,by simp,hlt,?_,(HB.o.trans HT.o.2.2).trans H5,(HK.o.trans HT.o.2.1).trans H8⟩;rw[H6.o];unfold Sx.put;rw[if_neg (by rw[H0.o];omega),if_neg (by rw[H0.o];omega)];exact hW3
    ·have Hy:(0:Int)<(yb:Int):=(by omega);have HZ:=zh hz;clear hz;have Hf:∀W,Wri B b ⟨y.b,y.n+1⟩ W->wr.heap.size<=W.heap.size->Calls Tryz.prog 93 #[.pointer (some ⟨b,0,none⟩),.int .u8 32] W fun e w'=>e=.returned .nilIface/\Wri B b ⟨y.b++[32],y.n+1⟩ w'/\Below B W w'/\KeepW W w':=fun W hW hWs=>zuvZ B b ⟨y.b,y.n+1⟩ 32 W hW (by have:=H0.o;simp;omega) (by omega);have hw:∀W,Wri B b ⟨y.b++[32],y.n+1⟩ W->wr.heap.size<=W.heap.size->Calls Tryz.prog 94 #[.pointer (some ⟨b,0,none⟩),.string ⟨s.toArray⟩] W fun e w'=>(∃u,e=.returned u)/\Wri B b ⟨y.b++[32]++s,y.n+1⟩ w'/\Below B W w'/\KeepW W w':=fun W hW hWs=>zpkZ B b ⟨y.b++[32],y.n+1⟩ s W hW Hd.o (by have:=H0.o;simp;omega) (by omega);have Hm:=zh Hf;have HW:=zh hw;clear hw Hf
     go_wp2_with (first
      | (go_at_call 92;refine(H1.o _ HT.o.1).mono ?_;rintro e W3 ⟨rfl,rfl⟩)
      | (go_at_call 93;refine(Hm.o _ HT.o.1 (by rw[H2];exact ybZ _)).mono ?_;rintro e W4 ⟨rfl,hW4,H9,Hb⟩;have Hg:=H9.size;rw[H2]at Hg;have Hp:=zh H9;have Hq:=zh Hb;have Hi:=zh hW4;clear hW4 H9 Hb)
      | (go_at_call 94;refine(HW.o W4 Hi.o Hg).mono ?_;rintro e W3 ⟨⟨u,rfl⟩,hW3,H5,H8⟩))
     go_roundg (l.length-(m+1))
     case measure=>have:=HI.o;omega
     case rel=>refine⟨m+1,rfl,by simp,hlt,?_,((HB.o.trans HT.o.2.2).trans Hp.o).trans H5,((HK.o.trans HT.o.2.1).trans Hq.o).trans H8⟩;rw[H6.o];unfold Sx.put;rw[if_neg (by rw[H0.o];omega),if_pos (by rw[H0.o];have:=HZ.o;omega)];exact hW3
  ·have Hh:¬(m:Int)<(l.length:Int):=(by omega);rw[yjZ (by omega)]at hW;have HW:=zh hW;clear hW hi hb hk;go_wp2_with fail;go_end0;exact⟨rfl,HW.o,HB.o,HK.o⟩
theorem zuxZ (B b:Nat) (x:Sx.Wr) (r:Bool) (w:World) (h:Wri B b x w) (hx:x.b.length<=1000065537) (hn:x.n<=1000000000) :
  Calls Tryz.prog 60 #[.pointer (some ⟨b,0,none⟩),.bool r] w fun e w'=>
   e=.returned (.tuple #[.string ⟨(Sx.told r x).1.toArray⟩,.int .i64 ((Sx.told r x).2:Nat)])/\Below B w w':=by
 obtain⟨c2,f2,hbl,hB⟩:=h.cells;have H0:=zpjZ B b x w h;have H1:=zplZ B b x w h;obtain⟨k,hk⟩:=zE (x.b.length);obtain⟨n,hnn⟩:=zE (x.n);rw[hk]at H0;rw[hnn]at c2;have H6:(0:Int)<=(k:Int):=by omega
 have H7:(0:Int)<=(n:Int):=by omega
 have H5:(k:Int)<=1000065537:=by omega
 have H8:(n:Int)<=1000000000:=by omega
 have HL:=zh H0;have HS:=zh H1;have HK:=zh hk;have HN:=zh hnn;clear H0 H1 hk hnn hx hn h
 cases r with
 | false=>
  go_enter Tryz.func60, Tryz.ntmps60
  go_wp2_with fail
  refine ylZ (yDZ rfl _ _ _) rfl ?_;exact⟨rfl,yqZ _ _⟩
 | true=>
  by_cases hbig:65536<k
  ·have H2:(65536:Int)<(k:Int):=(by omega);have ht:Sx.told true x=([],2):=(by unfold Sx.told;rw[HK.o,if_pos hbig];rfl);rw[ht];clear ht;go_enter Tryz.func60, Tryz.ntmps60;go_wp2_with (go_at_call 92;refine HL.o.mono ?_;rintro e W3 ⟨rfl,rfl⟩);refine ylZ (yDZ rfl _ _ _) rfl ?_;exact⟨rfl,yqZ _ _⟩
  ·have H2:(k:Int)<=(65536:Int):=(by omega);by_cases hmany:4096<n
   ·have H4:(4096:Int)<(n:Int):=(by omega);have ht:Sx.told true x=([],3):=(by unfold Sx.told;rw[HK.o,HN.o,if_neg hbig,if_pos hmany];rfl);rw[ht];clear ht;go_enter Tryz.func60, Tryz.ntmps60;go_wp2_with (go_at_call 92;refine HL.o.mono ?_;rintro e W3 ⟨rfl,rfl⟩);refine ylZ (yDZ rfl _ _ _) rfl ?_;exact⟨rfl,yqZ _ _⟩
   ·have H4:(n:Int)<=(4096:Int):=(by omega);have ht:Sx.told true x=(x.b,0):=(by unfold Sx.told;rw[HK.o,HN.o,if_neg hbig,if_neg hmany];rfl);rw[ht];clear ht;go_enter Tryz.func60, Tryz.ntmps60
    go_wp2_with (first
     | (go_at_call 92;refine HL.o.mono ?_;rintro e W3 ⟨rfl,rfl⟩)
     | (go_at_call 95;refine HS.o.mono ?_;rintro e W3 ⟨rfl,H3⟩))
    refine ylZ (yDZ rfl _ _ _) rfl ?_;exact⟨rfl,H3⟩
theorem Row.new (w:World) (l:List Lx.Bytes):Row (w.alloc (.cells (strsV l).toArray 9)) w.heap.size l:=ydZ w _
theorem Wri.grown {B b:Nat} {x:Sx.Wr} {w w':World} (h:Wri B b x w) (hg:w.grownBy w' none):Wri B b x w':=by
 obtain⟨hB,p,v,hb,hp,ho,hx⟩:=h;exact⟨hB,p,v,(hg.block b (zaZ hb) (fun e=>nomatch e)).trans hb,hp,World.ownsRow.kept ho hg (by cases v.ownBlock <;> simp),hx⟩
structure Wrote (W0:World) (b c:Nat) (l:List Lx.Bytes) (w:World):Prop where
 wri:Wri W0.heap.size b (Sx.puts ⟨[],0⟩ l) w
 below:Below W0.heap.size W0 w
 good:∀s∈l,s.length<=1000000000
 cnt:l.length<=c
theorem Wrote.grown {W0 w w':World} {b c:Nat} {l:List Lx.Bytes} (h:Wrote W0 b c l w) (hg:w.grownBy w' none):Wrote W0 b c l w':=
 ⟨h.wri.grown hg,h.below.grown hg h.below.size (fun j e=>nomatch e),h.good,h.cnt⟩
theorem Wrote.lt {W0 w:World} {b c:Nat} {l:List Lx.Bytes} (h:Wrote W0 b c l w):b<w.heap.size:=h.wri.cells.2.2.1
theorem Wrote.mono {W0 w:World} {b c d:Nat} {l:List Lx.Bytes} (h:Wrote W0 b c l w) (hd:c<=d):Wrote W0 b d l w:=⟨h.wri,h.below,h.good,ymZ h.cnt hd⟩
theorem Wrote.cast {W0 w:World} {b c:Nat} {l m:List Lx.Bytes} (h:Wrote W0 b c l w) (e:l=m):Wrote W0 b c m w:=e▸h
theorem KeepW.alloc (w:World) (o:Obj):KeepW w (w.alloc o):=KeepW.grown (yeZ w o none) (fun j e=>nomatch e)
theorem zpmZ {W0 w:World} {b c:Nat} {l m:List Lx.Bytes} (h:Wrote W0 b c l w) (hs:∀s∈m,s≠[]/\s.length<=1000000000) (hn:c+m.length<=1000000000) :
  Calls Tryz.prog 100 #[.pointer (some ⟨b,0,none⟩),.slice (some ⟨w.heap.size,0,none⟩) m.length m.length] (w.alloc (.cells (strsV m).toArray 9)) fun e w'=>
   e=.returned (.tuple #[])/\Wrote W0 b (c+m.length) (l++m) w'/\KeepW w w':=by
 have hg:w.grownBy (w.alloc (.cells (strsV m).toArray 9)) none:=yeZ w _ none;have hc:=h.cnt;refine(zwpZ W0.heap.size b w.heap.size m (Sx.puts ⟨[],0⟩ l) _ (h.wri.grown hg) (Row.new w m) hs (Sx.puts_len l _ (by simp) h.good) (by rw[Sx.puts_n];simp;omega) (ymZ h.below.size hg.size)).mono ?_;rintro e w' ⟨he,h1,h2,h3⟩;refine⟨he,⟨?_,(h.below.grown hg h.below.size (fun j e=>nomatch e)).trans h2,?_,?_⟩,(KeepW.grown hg (fun j e=>nomatch e)).trans h3⟩
 ·rw[Sx.puts_append];exact h1
 ·intro s hm;rcases yfbZ.1 hm with h' | h'
  ·exact h.good s h'
  ·exact(hs s h').2
 ·rw[ycZ];omega
theorem put1 {W0 w:World} {b c:Nat} {l:List Lx.Bytes} {s:Lx.Bytes} (h:Wrote W0 b c l w) (hs:s≠[]/\s.length<=1000000000) (hn:c+1<=1000000000) :
  Calls Tryz.prog 100 #[.pointer (some ⟨b,0,none⟩),.slice (some ⟨w.heap.size,0,none⟩) 1 1] (w.alloc (.cells #[.string ⟨s.toArray⟩] 9)) fun e w'=>
   e=.returned (.tuple #[])/\Wrote W0 b (c+1) (l++[s]) w'/\KeepW w w':=
 zpmZ (m:=[s]) h (by simpa using hs) hn
theorem put2 {W0 w:World} {b c:Nat} {l:List Lx.Bytes} {s t:Lx.Bytes} (h:Wrote W0 b c l w) (hs:s≠[]/\s.length<=1000000000) (ht:t≠[]/\t.length<=1000000000) (hn:c+2<=1000000000) :
  Calls Tryz.prog 100 #[.pointer (some ⟨b,0,none⟩),.slice (some ⟨w.heap.size,0,none⟩) 2 2] (w.alloc (.cells #[.string ⟨s.toArray⟩,.string ⟨t.toArray⟩] 9)) fun e w'=>
   e=.returned (.tuple #[])/\Wrote W0 b (c+2) (l++[s,t]) w'/\KeepW w w':=
 zpmZ (m:=[s,t]) h (by simpa using⟨hs,ht⟩) hn
theorem zezZ {W0 w:World} {b c:Nat} {l:List Lx.Bytes} (i:Nat) (h:Wrote W0 b c l w) (hi:i<=1000000000) (hn:c+1<=1000000000) :
  Calls Tryz.prog 131 #[.pointer (some ⟨b,0,none⟩),.int .i64 (i:Nat)] w fun e w'=>
   e=.returned (.tuple #[])/\Wrote W0 b (c+1) (l++(if 0<i then [[44]]else [])) w'/\KeepW w w':=by
 have H:=zh h;clear h;have H0:=H.o.lt;by_cases h0:i=0
 ·subst h0;go_enter Tryz.func131, Tryz.ntmps131;go_wp2_with fail;go_end0
  exact⟨rfl,by simpa using H.o.mono (Nat.le_succ _),KeepW.refl _⟩
 ·have H1:(0:Int)<(i:Int):=(by omega);rw[if_pos (by omega)];go_enter Tryz.func131, Tryz.ntmps131;go_wp2_with (go_at_call 100;refine(put1 (s:=[44]) H.o ⟨by simp,by simp⟩ hn).mono ?_;rintro e w' ⟨rfl,h1,h2⟩);go_end0
  exact⟨rfl,h1,h2⟩
def Cells5 (W:World) (g j:Nat) (kd:Int) (nm:Lx.Bytes) (vn ve vp:Value):Prop:=
 g<W.heap.size/\W.cell? ⟨g,j,none⟩=some (.int .i64 kd)/\W.cell? ⟨g,j+1,none⟩=some (.string ⟨nm.toArray⟩)/\W.cell? ⟨g,j+2,none⟩=some vn/\W.cell? ⟨g,j+3,none⟩=some ve/\W.cell? ⟨g,j+4,none⟩=some vp
theorem TyRow.spot {W0:World} {Ap:Option Addr} {k cp:Nat} {l:List Sx.Ty} (h:TyRow W0 (.slice Ap k cp) l) (m:Nat) (hm:m<l.length) :
  ∃g off An cn Ae ce Aq cq,Ap=some ⟨g,off,none⟩/\
   IsTy W0 (.agg #[.int .i64 (l[m]'hm).kind,.string ⟨(l[m]'hm).name.toArray⟩,.slice An (l[m]'hm).names.length cn,.slice Ae (l[m]'hm).embeds.length ce,.slice Aq (l[m]'hm).parts.length cq]) (l[m]'hm)/\
   ∀W,Below W0.heap.size W0 W->Cells5 W g (off+m * 5) (l[m]'hm).kind (l[m]'hm).name (.slice An (l[m]'hm).names.length cn) (.slice Ae (l[m]'hm).embeds.length ce) (.slice Aq (l[m]'hm).parts.length cq):=by
 obtain⟨A,c,hv,-,hl⟩:=h;injection hv with h1 _ _;subst h1;obtain⟨g,off,v0,v1,v2,v3,v4,rfl,c0,c1,c2,c3,c4,ht⟩:=IsTys.at hl m hm;obtain⟨vn,ve,vp,hagg,hsn,hse,hsp⟩:=ht.limbs;obtain⟨An,cn,hvn,-⟩:=id hsn;obtain⟨Ae,ce,hve,-⟩:=id hse;obtain⟨Aq,cq,hvp,-,-⟩:=id hsp;subst hvn hve hvp;injection hagg with hagg;simp only[ykbZ,ygbZ,ymbZ]at hagg;obtain⟨rfl,rfl,rfl,rfl,rfl⟩:=hagg;rw[yGZ]at c0 c1 c2 c3 c4;have hg:=World.block_lt_of_cell? W0 ⟨g,_,none⟩ c0;refine⟨g,off,An,cn,Ae,ce,Aq,cq,rfl,ht,fun W hb=>?_⟩;have up:∀ {j:Nat} {u:Value},W0.cell? ⟨g,j,none⟩=some u->W.cell? ⟨g,j,none⟩=some u:=fun {j u} hj=>(World.cell?_of_block (hb.block g hg)).trans hj;exact⟨yJZ hg hb.size,up c0,up c1,up c2,up c3,up c4⟩
theorem StrRow.cellAt {W0 W:World} {A:Option Addr} {k c:Nat} {l:List Lx.Bytes} (h:StrRow W0 (.slice A k c) l) (hb:Below W0.heap.size W0 W) (m:Nat) (hm:m<l.length) :
  ∃g off,A=some ⟨g,off,none⟩/\g<W.heap.size/\W.cell? ⟨g,off+m,none⟩=some (.string ⟨(l[m]'hm).toArray⟩):=by
 obtain⟨A',c',hv,hl⟩:=h;injection hv with h1 _ _;subst h1;obtain⟨g,off,rfl,hc⟩:=hl m hm;have hg:=World.block_lt_of_cell? W0 ⟨g,_,none⟩ hc;exact⟨g,off,rfl,yJZ hg hb.size,(World.cell?_of_block (hb.block g hg)).trans hc⟩
theorem BoolRow.cellAt {W0 W:World} {A:Option Addr} {k c:Nat} {l:List Bool} (h:BoolRow W0 (.slice A k c) l) (hb:Below W0.heap.size W0 W) (m:Nat) (hm:m<l.length) :
  ∃g off,A=some ⟨g,off,none⟩/\g<W.heap.size/\W.cell? ⟨g,off+m,none⟩=some (.bool (l[m]'hm)):=by
 obtain⟨A',c',hv,hl⟩:=h;injection hv with h1 _ _;subst h1;obtain⟨g,off,rfl,hc⟩:=hl m hm;have hg:=World.block_lt_of_cell? W0 ⟨g,_,none⟩ hc;exact⟨g,off,rfl,yJZ hg hb.size,(World.cell?_of_block (hb.block g hg)).trans hc⟩
theorem IsTy.agg {W:World} {v:Value} {t:Sx.Ty} (h:IsTy W v t):∃An cn Ae ce Ap cp,v=.agg #[.int .i64 t.kind,.string ⟨t.name.toArray⟩,.slice An t.names.length cn,.slice Ae t.embeds.length ce,.slice Ap t.parts.length cp]/\
  StrRow W (.slice An t.names.length cn) t.names/\BoolRow W (.slice Ae t.embeds.length ce) t.embeds/\TyRow W (.slice Ap t.parts.length cp) t.parts:=by
 obtain⟨vn,ve,vp,hagg,hsn,hse,hsp⟩:=h.limbs;obtain⟨An,cn,hvn,-⟩:=id hsn;obtain⟨Ae,ce,hve,-⟩:=id hse;obtain⟨Ap,cp,hvp,-,-⟩:=id hsp;subst hvn hve hvp;exact⟨An,cn,Ae,ce,Ap,cp,hagg,hsn,hse,hsp⟩
/-! ### the tokens up to a part -/
def Sx.parL:Nat->List Sx.Ty->List Lx.Bytes
 | _,[]=>[]
 | i,t::l=>(if 0<i then [[44]]else [])++Sx.typ t++Sx.parL (i+1) l
theorem Sx.parL_append:∀(l m:List Sx.Ty) (i:Nat),Sx.parL i (l++m)=Sx.parL i l++Sx.parL (i+l.length) m
 | [],m,i=>by simp[Sx.parL]
 | t::l,m,i=>by rw[yHZ,Sx.parL,Sx.parL,Sx.parL_append l m (i+1)];rw[yhZ,show i+1+l.length=i+(l.length+1)by omega];simp[yiZ]
theorem Sx.params_eq:∀(l:List Sx.Ty) (t:Sx.Ty) (i:Nat),Sx.params i (l++[t])=Sx.parL i l++[[41]]++Sx.typ t
 | [],t,i=>by simp[Sx.params,Sx.parL]
 | u::l,t,i=>by rw[yHZ,Sx.params,Sx.parL,Sx.params_eq l t (i+1)];rw[if_neg (by simp)];simp[yiZ]
theorem Sx.parL_take {l:List Sx.Ty} {m:Nat} (h:m<l.length):Sx.parL 0 (l.take (m+1))=Sx.parL 0 (l.take m)++(if 0<m then [[44]]else [])++Sx.typ l[m]:=by
 rw[ykZ h,Sx.parL_append,yGZ,yUZ,Nat.min_eq_left (by omega)];simp[Sx.parL,yiZ]
theorem Sx.sig_eq (t:Sx.Ty):Sx.signature t=[[40]]++Sx.params 0 t.parts:=by cases t;rw[Sx.signature];rfl
def TypOk (N:Sx.Names) (W0:World) (b:Nat) (t:Sx.Ty):Prop:=∀(d:Nat) (v:Value) (c:Nat) (l:List Lx.Bytes) (w:World),Sx.rightT N d t=true->IsTy W0 v t->Wrote W0 b c l w->c+10 * Sx.size t<=1000000000->
 Calls Tryz.prog 59 #[.pointer (some ⟨b,0,none⟩),v] w fun e w'=>e=.returned (.tuple #[])/\Wrote W0 b (c+(10 * Sx.size t-6)) (l++Sx.typ t) w'/\KeepW w w'
def SigOk (N:Sx.Names) (W0:World) (b:Nat) (t:Sx.Ty):Prop:=∀(d:Nat) (v:Value) (c:Nat) (l:List Lx.Bytes) (w:World),(∀p∈t.parts,Sx.rightT N d p=true)->t.parts≠[]->IsTy W0 v t->Wrote W0 b c l w->c+10 * Sx.size t<=1000000001->
 Calls Tryz.prog 109 #[.pointer (some ⟨b,0,none⟩),v] w fun e w'=>e=.returned (.tuple #[])/\Wrote W0 b (c+(10 * Sx.size t-7)) (l++Sx.signature t) w'/\KeepW w w'
theorem zwqZ (N:Sx.Names) (W0:World) (b:Nat) (t:Sx.Ty) (ih:∀p∈t.parts,TypOk N W0 b p):SigOk N W0 b t:=by
 intro d v c l w hr Hs ht h hc;obtain⟨An,cn,Ae,ce,Ap,cp,rfl,-,-,hp⟩:=ht.agg;obtain⟨k,hk⟩:∃k,t.parts.length=k+1:=⟨t.parts.length-1,by have:=List.length_pos_iff.2 Hs;omega⟩;have Ht:=Sx.size_parts t;have Hg:=Sx.length_size t.parts;have Jg:c+9<=1000000000:=by omega
 have Je:(k:Int)<=1000000000:=by omega
 have Jh:(0:Int)<=(k:Int):=by omega
 rw[hk]at hp ⊢;have Jf:(k:Int)<=(cp:Int):=by obtain⟨A',c',e1,e2,-⟩:=hp;injection e1 with _ _ e1;omega
 have HP:=zh hp;have HK:=zh hk;have HR:=zh hr;have J8:=zh Ht;have Hu:=zh ih;obtain⟨L,hL⟩:=zE (w.heap.size);obtain⟨w2,hw2⟩:=zE (w.alloc (.cells #[.int .i64 t.kind,.string ⟨t.name.toArray⟩,.slice An t.names.length cn,.slice Ae t.embeds.length ce,.slice Ap (k+1) cp] 26));have H8:w2.heap[L]? =some (.cells #[.int .i64 t.kind,.string ⟨t.name.toArray⟩,.slice An t.names.length cn,.slice Ae t.embeds.length ce,.slice Ap (k+1) cp] 26 (0,0)):=by rw[<-hw2,<-hL];exact ydZ w _
 have hW2:Wrote W0 b c l w2:=by rw[<-hw2];exact h.grown (yeZ w _ none)
 have Ja:=zh (show KeepW w w2 by rw[<-hw2];exact KeepW.alloc w _);have J6:=zh H8;have J4:=zh hW2;obtain⟨x0,x1,x2,x3,x4⟩:=zcZ H8;have Ji:=zaZ H8;have Jd:=hW2.lt;clear hr Hs ht hp hk Ht Hg ih hW2 H8 h;go_enter Tryz.func109, Tryz.ntmps109;go_wp2_with (go_at_call 100;refine(put1 (s:=[40]) J4.o ⟨by simp,by simp⟩ (by omega)).mono ?_;rintro e w3 ⟨rfl,hW3,Hp⟩;have H1:=Hp _ _ _ _ J6.o (by decide) (by decide);have Hh:=zh (Ja.o.trans Hp);have Hi:=zh hW3;clear x0 x1 x2 x3 x4 Hp hW3;obtain⟨x0,x1,x2,x3,x4⟩:=zcZ H1;have Jj:=zaZ H1;have Hc:=zh H1;clear H1;have Jc:=Hi.o.lt);have H3:=zh (show Wrote W0 b (c+1+10 * Sx.sizeL (t.parts.take 0)) (l++[[40]]++Sx.parL 0 (t.parts.take 0)) w3 from(Hi.o.mono (by omega)).cast (by simp[Sx.parL]));clear x0 x1 x2 x3 x4;go_loopg [21] k (fun i v wr=>∃(m:Nat),i=k-m/\v=.int .i64 (m:Int)/\m<=k/\Wrote W0 b (c+1+10 * Sx.sizeL (t.parts.take m)) (l++[[40]]++Sx.parL 0 (t.parts.take m)) wr/\KeepW w3 wr)
 case atStart=>exact⟨0,rfl,rfl,yxZ _,H3.o,KeepW.refl _⟩
 case round=>
  obtain⟨m,hi,rfl,hm,hW,hkw⟩:=hrel;have HI:=zh hi;have Hn:=zh hW;have m0:(0:Int)<=(m:Int):=(by omega);have H9:=hkw _ _ _ _ Hc.o (by decide) (by decide);have J7:=zh (Hh.o.trans hkw);have Hz:=zh hkw;have Hr:=zh H9;have Hv:=hW.lt;have Jl:=zaZ H9;have hSL:=Sx.sizeL_take_le t.parts (m+1);have hSZ:1+Sx.sizeL t.parts<=Sx.size t:=(by have:=J8.o;omega);clear hi hW hkw H3 Hi Hc;by_cases hlt:m<k
  ·have J2:(m:Int)<(k:Int):=(by omega);have H2:m<t.parts.length:=(by have:=HK.o;omega);obtain⟨g,off,An1,cn1,Ae1,ce1,Aq,cq,rfl,hty,hc5⟩:=HP.o.spot m H2;obtain⟨hg,c0,c1,c2,c3,c4⟩:=hc5 wr Hn.o.below;clear hc5;have H7:=Sx.size_take H2;have Hf:=Sx.parL_take H2;obtain⟨p,hpe⟩:=zE (t.parts[m]'H2);have H6:p∈t.parts:=(by rw[<-hpe];exact yfZ H2);rw[hpe]at c0 c1 c2 c3 c4 hty H7 Hf;have Hj:=Sx.size_pos p;have He:=zh hty;have J5:=zh Hf;have H5:=zh H6;obtain⟨sp,hsp⟩:=zE (Sx.size p);obtain⟨sm,hsm⟩:=zE (Sx.sizeL (t.parts.take m));rw[hsp,hsm]at H7;rw[H7]at hSL;rw[hsp]at Hj;have Hb:=zh hsp;have Hw:=zh hsm;have J1:=zh H7;have Hq:c+2+10 * (sm+sp)<=1000000000:=(by omega);obtain⟨L4,hL4⟩:=zE (wr.heap.size);obtain⟨w4,hw4⟩:=zE (wr.alloc (.cells #[.int .i64 p.kind,.string ⟨p.name.toArray⟩,.slice An1 p.names.length cn1,.slice Ae1 p.embeds.length ce1,.slice Aq p.parts.length cq] 26));have H4:w4.heap[L4]? =some (.cells #[.int .i64 p.kind,.string ⟨p.name.toArray⟩,.slice An1 p.names.length cn1,.slice Ae1 p.embeds.length ce1,.slice Aq p.parts.length cq] 26 (0,0)):=(by rw[<-hw4,<-hL4];exact ydZ wr _);have Hk:=zh H4;have J3:=zh (show Wrote W0 b (c+1+10 * sm) (l++[[40]]++Sx.parL 0 (t.parts.take m)) w4 by rw[<-hw4,<-Hw.o];exact Hn.o.grown (yeZ wr _ none));have Jb:=zh (show KeepW wr w4 by rw[<-hw4];exact KeepW.alloc wr _);have Jk:L4<w4.heap.size:=zaZ H4;clear hty Hf H6 hpe hsp hsm H7 H4
   go_wp2_with (first
    | (go_at_call 131;refine(zezZ m J3.o (by omega) (by omega)).mono ?_;rintro e w5 ⟨rfl,hW5,Ha⟩;have H0:=Ha _ _ _ _ Hk.o (by decide) (by decide);obtain⟨y0,y1,y2,y3,y4⟩:=zcZ H0;have Hy:=zaZ H0;have Hd:=zh hW5;have Ho:=zh Ha;clear H0 hW5 Ha)
    | (go_at_call 59;refine(Hu.o p H5.o d _ _ _ w5 (HR.o p H5.o) He.o Hd.o (by rw[Hb.o];omega)).mono ?_;rintro e w6 ⟨rfl,hW6,Hl⟩))
   go_roundg (k-(m+1))
   case measure=>have:=HI.o;omega
   case rel=>
    refine⟨m+1,rfl,by simp,hlt,(hW6.mono ?_).cast ?_,((Hz.o.trans Jb.o).trans Ho.o).trans Hl⟩
    ·rw[J1.o,Hb.o];omega
    ·rw[J5.o];simp[yiZ]
  ·have J2:¬(m:Int)<(k:Int):=(by omega);obtain rfl:m=k:=(by omega);have H2:m<t.parts.length:=(by have:=HK.o;omega);obtain⟨g,off,An1,cn1,Ae1,ce1,Aq,cq,rfl,hty,hc5⟩:=HP.o.spot m H2;have H7:=Sx.size_take H2;have Hm:Sx.signature t=[[40]]++Sx.parL 0 (t.parts.take m)++[[41]]++Sx.typ (t.parts[m]'H2):=by
    rw[Sx.sig_eq]
    conv=>lhs;rw[show t.parts=t.parts.take m++[t.parts[m]'H2]by rw[<-ykZ H2,yjZ (by have:=HK.o;omega)]]
    rw[Sx.params_eq];simp[yiZ]
   obtain⟨p,hpe⟩:=zE (t.parts[m]'H2);have H6:p∈t.parts:=(by rw[<-hpe];exact yfZ H2);rw[hpe]at hc5 hty H7 Hm;have J9:=zh hc5;have Hj:=Sx.size_pos p;have He:=zh hty;have Hx:=zh Hm;have H5:=zh H6;obtain⟨sp,hsp⟩:=zE (Sx.size p);obtain⟨sm,hsm⟩:=zE (Sx.sizeL (t.parts.take m));rw[hsp,hsm]at H7;rw[H7]at hSL;rw[hsp]at Hj;have Hb:=zh hsp;have J0:=zh (show Wrote W0 b (c+1+10 * sm) (l++[[40]]++Sx.parL 0 (t.parts.take m)) wr by rw[<-hsm];exact Hn.o);have Hq:c+2+10 * (sm+sp)<=1000000000:=(by omega);obtain⟨x0,x1,x2,x3,x4⟩:=zcZ Hr.o;clear hc5 hty Hm H6 hpe hsp hsm H7
   go_wp2_with (first
    | (go_at_call 100;refine(put1 (s:=[41]) J0.o ⟨by simp,by simp⟩ (by omega)).mono ?_;rintro e w5 ⟨rfl,hW5,Ha⟩;have H0:=Ha _ _ _ _ Hr.o (by decide) (by decide);clear x0 x1 x2 x3 x4;obtain⟨y0,y1,y2,y3,y4⟩:=zcZ H0;have Hy:=zaZ H0;have Hd:=zh hW5;have Ho:=zh Ha;clear H0 hW5 Ha;obtain⟨hg5,d0,d1,d2,d3,d4⟩:=J9.o w5 Hd.o.below)
    | (go_at_call 59;refine(Hu.o p H5.o d _ _ _ w5 (HR.o p H5.o) He.o Hd.o (by rw[Hb.o];omega)).mono ?_;rintro e w6 ⟨rfl,hW6,Hl⟩))
   go_end0
   refine⟨rfl,(hW6.mono ?_).cast ?_,(J7.o.trans Ho.o).trans Hl⟩
   ·rw[Hb.o];omega
   ·rw[Hx.o];simp[yiZ]
theorem Sx.rights_mem {N:Sx.Names} {d:Nat} : ∀ {l:List Sx.Ty},Sx.rightTs N d l=true->∀p∈l,Sx.rightT N d p=true
 | [],_,p,h=>by cases h
 | t::l,hr,p,h=>by
  rw[Sx.rightTs,ygZ]at hr;rcases yTZ.1 h with rfl | h
  ·exact hr.1
  ·exact Sx.rights_mem hr.2 p h
theorem Sx.right_parts {N:Sx.Names} {d:Nat} {t:Sx.Ty} (h:Sx.rightT N d t=true):∃e,d=e+1/\(∀p∈t.parts,Sx.rightT N e p=true)/\Sx.shape N t.kind t.name t.names t.embeds t.parts=true:=by
 cases t with
 | mk k n ns es ps=>
  cases d with
  | zero=>simp[Sx.rightT]at h
  | succ e=>rw[Sx.rightT,ygZ]at h;exact⟨e,rfl,Sx.rights_mem h.1,h.2⟩
structure Sx.NamesOk (N:Sx.Names):Prop where
 small:∀s,N.small s=true->s≠[]
 great:∀s,N.great s=true->s≠[]
theorem Sx.apart_small {N:Sx.Names} : ∀ {l:List Lx.Bytes},Sx.apart N l=true->∀s∈l,N.small s=true
 | [],_,s,h=>by cases h
 | x::l,hr,s,h=>by
  rw[Sx.apart,ygZ,ygZ]at hr;rcases yTZ.1 h with rfl | h
  ·exact hr.1
  ·exact Sx.apart_small hr.2.2 s h
theorem Sx.typ_eq (t:Sx.Ty):Sx.typ t=(if t.kind=1 then [[105,110,116]]
  else if t.kind=2 then [[98,111,111,108]]
  else if t.kind=3 then [[116,101,120,116]]
  else if t.kind=4 then [t.name]
  else if t.kind=5 then [42]::Sx.typL t.parts
  else if t.kind=6 then [[123]]++Sx.fields t.names t.embeds t.parts++[[125]]
  else if t.kind=7 then [[102,110]]++([[40]]++Sx.params 0 t.parts)
  else if t.kind=8 then [[105,110,116,101,114,102,97,99,101],[123]]++Sx.methods t.names t.parts++[[125]]
  else []):=by cases t;rw[Sx.typ];rfl
theorem Sx.typL_head:∀ {l:List Sx.Ty} (h:0<l.length),Sx.typL l=Sx.typ (l[0]'h)
 | t::l,h=>by rw[Sx.typL];rfl
theorem Wrote.drew {W0 w:World} {b c:Nat} {l:List Lx.Bytes} (h:Wrote W0 b c l w):Wrote W0 b c l w.drew:=h.grown ⟨rfl,rfl,rfl,ybZ _,fun _ _ _=>rfl⟩
theorem zuyZ (N:Sx.Names) (hN:Sx.NamesOk N) (W0:World) (b:Nat) (t:Sx.Ty) (hkd:t.kind=1):TypOk N W0 b t:=by
 intro d v c l w hr ht h hc;obtain⟨An,cn,Ae,ce,Ap,cp,rfl,hnm,hem,hp⟩:=ht.agg;obtain⟨d',rfl,hr',hsh⟩:=Sx.right_parts hr;rw[hkd]at hsh ht ⊢;have H1:=Sx.size_parts t;have H6:c+10<=1000000000:=by omega
 have HT:=zh (show Sx.typ t=[[105,110,116]]by rw[Sx.typ_eq,hkd];simp);have H2:=zh H1;obtain⟨L,hL⟩:=zE (w.heap.size);obtain⟨w2,hw2⟩:=zE (w.alloc (.cells #[.int .i64 1,.string ⟨t.name.toArray⟩,.slice An t.names.length cn,.slice Ae t.embeds.length ce,.slice Ap t.parts.length cp] 26));have H0:w2.heap[L]? =some (.cells #[.int .i64 1,.string ⟨t.name.toArray⟩,.slice An t.names.length cn,.slice Ae t.embeds.length ce,.slice Ap t.parts.length cp] 26 (0,0)):=by rw[<-hw2,<-hL];exact ydZ w _
 have hW2:Wrote W0 b c l w2:=by rw[<-hw2];exact h.grown (yeZ w _ none)
 have H5:=zh (show KeepW w w2 by rw[<-hw2];exact KeepW.alloc w _);have H4:=zh hW2;obtain⟨x0,x1,x2,x3,x4⟩:=zcZ H0;have H9:=zaZ H0;have H7:=hW2.lt;clear hr hr' ht hp hnm hem H1 hW2 H0 h hsh hkd;go_enter Tryz.func59, Tryz.ntmps59;go_wp2_with (go_at_call 100;refine(put1 (s:=[105,110,116]) H4.o ⟨by simp,by simp⟩ (by omega)).mono ?_;rintro e w3 ⟨rfl,hW3,H3⟩);go_end0
 exact⟨rfl,(hW3.mono (by have:=H2.o;omega)).cast (by rw[HT.o]),H5.o.trans H3⟩
theorem zuzZ (N:Sx.Names) (hN:Sx.NamesOk N) (W0:World) (b:Nat) (t:Sx.Ty) (hkd:t.kind=2):TypOk N W0 b t:=by
 intro d v c l w hr ht h hc;obtain⟨An,cn,Ae,ce,Ap,cp,rfl,hnm,hem,hp⟩:=ht.agg;obtain⟨d',rfl,hr',hsh⟩:=Sx.right_parts hr;rw[hkd]at hsh ht ⊢;have H1:=Sx.size_parts t;have H6:c+10<=1000000000:=by omega
 have HT:=zh (show Sx.typ t=[[98,111,111,108]]by rw[Sx.typ_eq,hkd];simp);have H2:=zh H1;obtain⟨L,hL⟩:=zE (w.heap.size);obtain⟨w2,hw2⟩:=zE (w.alloc (.cells #[.int .i64 2,.string ⟨t.name.toArray⟩,.slice An t.names.length cn,.slice Ae t.embeds.length ce,.slice Ap t.parts.length cp] 26));have H0:w2.heap[L]? =some (.cells #[.int .i64 2,.string ⟨t.name.toArray⟩,.slice An t.names.length cn,.slice Ae t.embeds.length ce,.slice Ap t.parts.length cp] 26 (0,0)):=by rw[<-hw2,<-hL];exact ydZ w _
 have hW2:Wrote W0 b c l w2:=by rw[<-hw2];exact h.grown (yeZ w _ none)
 have H5:=zh (show KeepW w w2 by rw[<-hw2];exact KeepW.alloc w _);have H4:=zh hW2;obtain⟨x0,x1,x2,x3,x4⟩:=zcZ H0;have H9:=zaZ H0;have H7:=hW2.lt;clear hr hr' ht hp hnm hem H1 hW2 H0 h hsh hkd;go_enter Tryz.func59, Tryz.ntmps59;go_wp2_with (go_at_call 100;refine(put1 (s:=[98,111,111,108]) H4.o ⟨by simp,by simp⟩ (by omega)).mono ?_;rintro e w3 ⟨rfl,hW3,H3⟩);go_end0
 exact⟨rfl,(hW3.mono (by have:=H2.o;omega)).cast (by rw[HT.o]),H5.o.trans H3⟩
theorem zvaZ (N:Sx.Names) (hN:Sx.NamesOk N) (W0:World) (b:Nat) (t:Sx.Ty) (hkd:t.kind=3):TypOk N W0 b t:=by
 intro d v c l w hr ht h hc;obtain⟨An,cn,Ae,ce,Ap,cp,rfl,hnm,hem,hp⟩:=ht.agg;obtain⟨d',rfl,hr',hsh⟩:=Sx.right_parts hr;rw[hkd]at hsh ht ⊢;have H1:=Sx.size_parts t;have H6:c+10<=1000000000:=by omega
 have HT:=zh (show Sx.typ t=[[116,101,120,116]]by rw[Sx.typ_eq,hkd];simp);have H2:=zh H1;obtain⟨L,hL⟩:=zE (w.heap.size);obtain⟨w2,hw2⟩:=zE (w.alloc (.cells #[.int .i64 3,.string ⟨t.name.toArray⟩,.slice An t.names.length cn,.slice Ae t.embeds.length ce,.slice Ap t.parts.length cp] 26));have H0:w2.heap[L]? =some (.cells #[.int .i64 3,.string ⟨t.name.toArray⟩,.slice An t.names.length cn,.slice Ae t.embeds.length ce,.slice Ap t.parts.length cp] 26 (0,0)):=by rw[<-hw2,<-hL];exact ydZ w _
 have hW2:Wrote W0 b c l w2:=by rw[<-hw2];exact h.grown (yeZ w _ none)
 have H5:=zh (show KeepW w w2 by rw[<-hw2];exact KeepW.alloc w _);have H4:=zh hW2;obtain⟨x0,x1,x2,x3,x4⟩:=zcZ H0;have H9:=zaZ H0;have H7:=hW2.lt;clear hr hr' ht hp hnm hem H1 hW2 H0 h hsh hkd;go_enter Tryz.func59, Tryz.ntmps59;go_wp2_with (go_at_call 100;refine(put1 (s:=[116,101,120,116]) H4.o ⟨by simp,by simp⟩ (by omega)).mono ?_;rintro e w3 ⟨rfl,hW3,H3⟩);go_end0
 exact⟨rfl,(hW3.mono (by have:=H2.o;omega)).cast (by rw[HT.o]),H5.o.trans H3⟩
theorem zvbZ (N:Sx.Names) (hN:Sx.NamesOk N) (W0:World) (b:Nat) (t:Sx.Ty) (hkd:t.kind=4):TypOk N W0 b t:=by
 intro d v c l w hr ht h hc;obtain⟨An,cn,Ae,ce,Ap,cp,rfl,hnm,hem,hp⟩:=ht.agg;obtain⟨d',rfl,hr',hsh⟩:=Sx.right_parts hr;rw[hkd]at hsh ht ⊢;have H1:=Sx.size_parts t;have Hd:c+10<=1000000000:=by omega
 have HT:=zh (show Sx.typ t=[t.name]by rw[Sx.typ_eq,hkd];simp);have hg:N.great t.name=true:=by simp[Sx.shape]at hsh;exact hsh.1.1.1
 have H2:=zh (hN.great _ hg);have H7:t.name.length<=1000000000:=by omega
 clear hg;have H8:=zh H1;obtain⟨L,hL⟩:=zE (w.heap.size);obtain⟨w2,hw2⟩:=zE (w.alloc (.cells #[.int .i64 4,.string ⟨t.name.toArray⟩,.slice An t.names.length cn,.slice Ae t.embeds.length ce,.slice Ap t.parts.length cp] 26));have H0:w2.heap[L]? =some (.cells #[.int .i64 4,.string ⟨t.name.toArray⟩,.slice An t.names.length cn,.slice Ae t.embeds.length ce,.slice Ap t.parts.length cp] 26 (0,0)):=by rw[<-hw2,<-hL];exact ydZ w _
 have hW2:Wrote W0 b c l w2:=by rw[<-hw2];exact h.grown (yeZ w _ none)
 have H9:=zh (show KeepW w w2 by rw[<-hw2];exact KeepW.alloc w _);have H5:=zh hW2;obtain⟨x0,x1,x2,x3,x4⟩:=zcZ H0;have He:=zaZ H0;have Ha:=hW2.lt;clear hr hr' ht hp hnm hem H1 hW2 H0 h hsh hkd;go_enter Tryz.func59, Tryz.ntmps59;go_wp2_with fail;have H6:=zh H5.o.drew;have H4:=zh (H9.o.trans (KeepW.drew w2))
 go_region_with (go_at_call 100;refine(put1 (s:=t.name) H6.o ⟨H2.o,H7⟩ (by omega)).mono ?_;rintro e w4 ⟨rfl,hW4,H3⟩)
 go_end0
 exact⟨rfl,(hW4.mono (by have:=H8.o;omega)).cast (by rw[HT.o]),H4.o.trans H3⟩
theorem zvcZ (N:Sx.Names) (hN:Sx.NamesOk N) (W0:World) (b:Nat) (t:Sx.Ty) (ih:∀p∈t.parts,TypOk N W0 b p) (hkd:t.kind=5):TypOk N W0 b t:=by
 intro d v c l w hr ht h hc;obtain⟨An,cn,Ae,ce,Ap,cp,rfl,hnm,hem,hp⟩:=ht.agg;obtain⟨d',rfl,hr',hsh⟩:=Sx.right_parts hr;rw[hkd]at hsh ht ⊢;have H8:=Sx.size_parts t;have Ho:c+10<=1000000000:=by omega
 have H2:0<t.parts.length:=by simp[Sx.shape]at hsh;omega
 obtain⟨g,off,An1,cn1,Ae1,ce1,Aq,cq,rfl,hty,hc5⟩:=hp.spot 0 H2
 have HT:=zh (show Sx.typ t=[42]::Sx.typ (t.parts[0]'H2)by
  rw[Sx.typ_eq,hkd,Sx.typL_head H2]
  simp)
 have H6:=Sx.size_mem (yfZ H2);obtain⟨p,hpe⟩:=zE (t.parts[0]'H2);have H4:p∈t.parts:=by rw[<-hpe];exact yfZ H2
 rw[hpe]at hty hc5 H6 HT;have Hp:=Sx.size_pos p;have Hd:=zh hty;have Hh:=zh hc5;have H3:=zh H4;have Hf:=zh ih;have Hb:(0:Int)<(t.parts.length:Int):=by omega
 have Hi:c+10 * (1+Sx.size p)<=1000000000:=by omega
 have H9:1+Sx.size p<=Sx.size t:=by omega
 clear hty hc5 hpe H4 ih H6 H2;have HR:=zh hr';obtain⟨L,hL⟩:=zE (w.heap.size);obtain⟨w2,hw2⟩:=zE (w.alloc (.cells #[.int .i64 5,.string ⟨t.name.toArray⟩,.slice An t.names.length cn,.slice Ae t.embeds.length ce,.slice (some ⟨g,off,none⟩) t.parts.length cp] 26));have H1:w2.heap[L]? =some (.cells #[.int .i64 5,.string ⟨t.name.toArray⟩,.slice An t.names.length cn,.slice Ae t.embeds.length ce,.slice (some ⟨g,off,none⟩) t.parts.length cp] 26 (0,0)):=by rw[<-hw2,<-hL];exact ydZ w _
 have hW2:Wrote W0 b c l w2:=by rw[<-hw2];exact h.grown (yeZ w _ none)
 have Hj:=zh (show KeepW w w2 by rw[<-hw2];exact KeepW.alloc w _);have H7:=zh H1;have Hc:=zh hW2;obtain⟨x0,x1,x2,x3,x4⟩:=zcZ H1;have Hr:=zaZ H1;have Hk:=hW2.lt;clear hr hr' ht hp hnm hem H8 hW2 H1 h hsh hkd;clear x0 x1 x2 x3 x4;obtain⟨x0,x1,x2,x3,x4⟩:=zcZ H7.o;go_enter Tryz.func59, Tryz.ntmps59
 go_wp2_with (first
  | (go_at_call 100;refine(put1 (s:=[42]) Hc.o ⟨by simp,by simp⟩ (by omega)).mono ?_;rintro e w5 ⟨rfl,hW5,H5⟩;have H0:=H5 _ _ _ _ H7.o (by decide) (by decide);clear x0 x1 x2 x3 x4;obtain⟨y0,y1,y2,y3,y4⟩:=zcZ H0;have Hm:=zaZ H0;have Ha:=zh hW5;have Hg:=zh H5;clear H0 hW5 H5;obtain⟨hg5,d0,d1,d2,d3,d4⟩:=Hh.o w5 Ha.o.below;rw[yrZ,ypZ]at d0 d1 d2 d3 d4)
  | (go_at_call 59;refine(Hf.o p H3.o d' _ _ _ w5 (HR.o p H3.o) Hd.o Ha.o (by omega)).mono ?_;rintro e w6 ⟨rfl,hW6,He⟩))
 go_end0
 refine⟨rfl,(hW6.mono ?_).cast ?_,(Hj.o.trans Hg.o).trans He⟩
 ·omega
 ·rw[HT.o];simp[yiZ]
theorem zvdZ (N:Sx.Names) (hN:Sx.NamesOk N) (W0:World) (b:Nat) (t:Sx.Ty) (hsig:SigOk N W0 b t) (hkd:t.kind=7):TypOk N W0 b t:=by
 intro d v c l w hr ht h hc;obtain⟨An,cn,Ae,ce,Ap,cp,rfl,hnm,hem,hp⟩:=ht.agg;obtain⟨d',rfl,hr',hsh⟩:=Sx.right_parts hr;rw[hkd]at hsh ht ⊢;have H3:=Sx.size_parts t;have He:c+10<=1000000000:=by omega
 have H5:=zh (show t.parts≠[]by rintro e;simp[Sx.shape,e]at hsh);have HT:=zh (show Sx.typ t=[[102,110]]++Sx.signature t by rw[Sx.typ_eq,hkd,Sx.sig_eq];simp);have HS:=zh hsig;have Hf:=Sx.size_pos t;clear hsig;have HR:=zh hr';have H4:=zh ht;obtain⟨L,hL⟩:=zE (w.heap.size);obtain⟨w2,hw2⟩:=zE (w.alloc (.cells #[.int .i64 7,.string ⟨t.name.toArray⟩,.slice An t.names.length cn,.slice Ae t.embeds.length ce,.slice Ap t.parts.length cp] 26));have H1:w2.heap[L]? =some (.cells #[.int .i64 7,.string ⟨t.name.toArray⟩,.slice An t.names.length cn,.slice Ae t.embeds.length ce,.slice Ap t.parts.length cp] 26 (0,0)):=by rw[<-hw2,<-hL];exact ydZ w _
 have hW2:Wrote W0 b c l w2:=by rw[<-hw2];exact h.grown (yeZ w _ none)
 have Ha:=zh (show KeepW w w2 by rw[<-hw2];exact KeepW.alloc w _);have H7:=zh H1;have H6:=zh hW2;obtain⟨x0,x1,x2,x3,x4⟩:=zcZ H1;have Hh:=zaZ H1;have Hc:=hW2.lt;clear hr hr' ht hp hnm hem H3 hW2 H1 h hsh hkd;go_enter Tryz.func59, Tryz.ntmps59
 go_wp2_with (first
  | (go_at_call 100;refine(put1 (s:=[102,110]) H6.o ⟨by simp,by simp⟩ (by omega)).mono ?_;rintro e w5 ⟨rfl,hW5,H2⟩;have H0:=H2 _ _ _ _ H7.o (by decide) (by decide);clear x0 x1 x2 x3 x4;obtain⟨y0,y1,y2,y3,y4⟩:=zcZ H0;have Hd:=zaZ H0;have Hb:=zh hW5;have H9:=zh H2;clear H0 hW5 H2)
  | (go_at_call 109;refine(HS.o d' _ _ _ w5 HR.o H5.o H4.o Hb.o (by omega)).mono ?_;rintro e w6 ⟨rfl,hW6,H8⟩))
 go_end0
 refine⟨rfl,(hW6.mono ?_).cast ?_,(Ha.o.trans H9.o).trans H8⟩
 ·omega
 ·rw[HT.o];simp[yiZ]
end Go.Proofs.YtdncljdfmdgdaaaGreatDoor
