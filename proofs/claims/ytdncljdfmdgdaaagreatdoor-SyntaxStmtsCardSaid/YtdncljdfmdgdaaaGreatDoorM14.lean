/-
  The walk of syntax.Type.
-/
import Derived.Test.YtdncljdfmdgdaaaGreatDoorM13
set_option linter.unusedSimpArgs false
set_option linter.unusedVariables false
set_option maxRecDepth 100000
set_option maxHeartbeats 4000000
namespace Go.Proofs.YtdncljdfmdgdaaaGreatDoor
open Go.RowKit Go.Shelf Go.WideMaps
theorem zvgZ:isTok 1 []=false:=by kernel_rfl
theorem zvhZ:isTok 2 []=false:=by kernel_rfl
theorem NM.ok:Sx.NamesOk NM:=⟨fun s h e=>by subst e;exact absurd (zvgZ.symm.trans h) (by simp),fun s h e=>by subst e;exact absurd (zvhZ.symm.trans h) (by simp)⟩
def Sx.said (right:Bool) (l:List Lx.Bytes):Lx.Bytes×Nat:=if right then Sx.told true (Sx.puts ⟨[],0⟩ l)else([],1)
theorem Wrote.fresh {W0 w:World} {b:Nat} (hB:W0.heap.size<=b) (hb:w.heap[b]? =some (.cells #[.pointer none,.slice none 0 0,.int .i64 0] 104 (0,0))) (h:Below W0.heap.size W0 w):Wrote W0 b 0 [] w:=
 ⟨⟨hB,none,.slice none 0 0,hb,.inl rfl,yOZ _ _ _ _,fun _=>rfl⟩,h,by simp,ybZ _⟩
theorem zdtZ {W0 w:World} {b c:Nat} {l:List Lx.Bytes} (h:Wrote W0 b c l w) (hc:c<=1000000000) (r:Bool) (hr:r=false->l=[]) :
  Calls Tryz.prog 60 #[.pointer (some ⟨b,0,none⟩),.bool r] w fun e w'=>
   e=.returned (.tuple #[.string ⟨(Sx.said r l).1.toArray⟩,.int .i64 ((Sx.said r l).2:Nat)])/\Below W0.heap.size W0 w':=by
 have H0:=h.cnt;refine(zuxZ W0.heap.size b (Sx.puts ⟨[],0⟩ l) r w h.wri (Sx.puts_len l _ (by simp) h.good) (by rw[Sx.puts_n];simp;omega)).mono ?_;rintro e w' ⟨he,hb⟩;refine⟨?_,h.below.trans hb⟩;rw[he]
 cases r with
 | true=>rfl
 | false=>rfl
theorem zgwZ (t:Sx.Ty) (v:Value) (W:World) (hG:GS W) (hN:NG<=W.heap.size) (ht:IsTy W v t) (hsz:Sx.size t<=1000000) :
  Calls Tryz.prog 14 #[v] W fun e W'=>e=.returned (.tuple #[.string ⟨(Sx.said (Sx.rightT NM 64 t) (Sx.typ t)).1.toArray⟩,.int .i64 ((Sx.said (Sx.rightT NM 64 t) (Sx.typ t)).2:Nat)])/\Below W.heap.size W W':=by
 have Hc:∀X,Below W.heap.size W X->Calls Tryz.prog 58 #[v,.int .i64 64] X fun e W'=>e=.returned (.bool (Sx.rightT NM 64 t))/\Below X.heap.size X W':=fun X hb=>zfbZ 64 (by omega) t v X (hG.below hb) (ymZ hN hb.size) (ht.below hb) hsz;have H7:=fun b w (hr:Sx.rightT NM 64 t=true) (h:Wrote W b 0 [] w)=>(zeeZ NM NM.ok W b _ t (ybZ _)).1 64 v 0 [] w hr ht h (by omega);obtain⟨An,cn,Ae,ce,Ap,cp,rfl,hnm,hem,hp⟩:=ht.agg;obtain⟨L,hL⟩:=zE (W.heap.size);obtain⟨w2,hw2⟩:=zE (W.alloc (.cells #[.int .i64 t.kind,.string ⟨t.name.toArray⟩,.slice An t.names.length cn,.slice Ae t.embeds.length ce,.slice Ap t.parts.length cp] 26));have H5:w2.heap[L]? =some (.cells #[.int .i64 t.kind,.string ⟨t.name.toArray⟩,.slice An t.names.length cn,.slice Ae t.embeds.length ce,.slice Ap t.parts.length cp] 26 (0,0)):=by rw[<-hw2,<-hL];exact ydZ W _
 have Ha:Below W.heap.size W w2:=by rw[<-hw2];exact zeZ (yeZ W _ none)
 obtain⟨K,hK⟩:=zE (w2.heap.size);have hLK:L<=K/\L<K:=by rw[<-hK,<-hw2,<-hL];simp
 obtain⟨w3,hw3⟩:=zE (w2.alloc (.cells #[.pointer none,.slice none 0 0,.int .i64 0] 104));have H1:w3.heap[K]? =some (.cells #[.pointer none,.slice none 0 0,.int .i64 0] 104 (0,0)):=by rw[<-hw3,<-hK];exact ydZ w2 _
 have H9:Below w2.heap.size w2 w3:=by rw[<-hw3];exact zeZ (yeZ w2 _ none)
 have H4:Below W.heap.size W w3:=Ha.trans (H9.mono Ha.size);have H0:=(H9.block L (by omega)).trans H5;have Hd:K<w3.heap.size:=zaZ H1;obtain⟨x0,x1,x2,x3,x4⟩:=zcZ H0;have Hj:=zaZ H0
 have Hf:=zh (show ∀w4,Below w3.heap.size w3 w4->Wrote W K 0 [] w4/\K<w4.heap.size/\w4.heap[L]? =w3.heap[L]? from fun w4 H2=>
  ⟨Wrote.fresh (by omega) ((H2.block K Hd).trans H1) (H4.trans (H2.mono H4.size)),yJZ Hd H2.size,H2.block L Hj⟩)
 have H8:=zh (Hc w3 H4);have Hb:=zh H7;have H6:=zh H0;have Hi:=zh hsz;clear hLK Hc H7 ht hnm hem hp H5 Ha H9 H4 H0 H1 hG hsz
 cases hr:Sx.rightT NM 64 t with
 | false=>
  rw[hr]at H8;have HR:=zh hr;clear hr;go_enter Tryz.func14, Tryz.ntmps14
  go_wp2_with (first
   | (go_at_call 58;refine H8.o.mono ?_;rintro e w4 ⟨rfl,H2⟩;obtain⟨hW,hl4,-⟩:=Hf.o w4 H2;have hW4:=zh hW;clear H2 hW)
   | (go_at_call 60;refine(zdtZ hW4.o (by omega) false (fun _=>rfl)).mono ?_;rintro e w5 ⟨rfl,Hh⟩))
  refine ylZ (yDZ rfl _ _ _) rfl ?_;exact⟨rfl,Hh⟩
 | true=>
  rw[hr]at H8;have HR:=zh hr;clear hr;go_enter Tryz.func14, Tryz.ntmps14
  go_wp2_with (first
   | (go_at_call 58;refine H8.o.mono ?_;rintro e w4 ⟨rfl,H2⟩;obtain⟨hW,hl4,hbl4⟩:=Hf.o w4 H2;have hW4:=zh hW;have H3:=hbl4.trans H6.o;clear H2 hW hbl4 x0 x1 x2 x3 x4;obtain⟨x0,x1,x2,x3,x4⟩:=zcZ H3;clear H3)
   | (go_at_call 59;refine(Hb.o (K) w4 HR.o hW4.o).mono ?_;rintro e w5 ⟨rfl,h5,-⟩;have Hk:=h5.lt;have hW5:=zh h5;clear h5)
   | (go_at_call 60;refine(zdtZ hW5.o (by have:=Hi.o;omega) true (fun h=>by cases h)).mono ?_;rintro e w6 ⟨rfl,Hg⟩))
  refine ylZ (yDZ rfl _ _ _) rfl ?_;exact⟨rfl,Hg⟩
structure Live (W0:World) (b:Nat) (l:List Lx.Bytes) (w0 w:World) (L:Nat) (cs:Array Value) (t:TypeId) (L2:Nat) (cs2:Array Value) (t2:TypeId):Prop where
 wr:Wrote W0 b l.length l w
 kp:KeepW w0 w
 b1:w.heap[L]? =some (.cells cs t (0,0))
 b2:w.heap[L2]? =some (.cells cs2 t2 (0,0))
def Other (t:TypeId):Prop:=t≠ 5 /\t≠ 104
theorem Wrote.tight {W0 w:World} {b c:Nat} {l:List Lx.Bytes} (h:Wrote W0 b c l w):Wrote W0 b l.length l w:=⟨h.wri,h.below,h.good,ybZ _⟩
theorem Live.go {W0 w0 w w':World} {b L L2 c:Nat} {l m:List Lx.Bytes} {cs cs2:Array Value} {t t2:TypeId} (h:Live W0 b l w0 w L cs t L2 cs2 t2) (ht:Other t) (ht2:Other t2) (hW:Wrote W0 b c m w') (hk:KeepW w w'):Live W0 b m w0 w' L cs t L2 cs2 t2:=
 ⟨hW.tight,h.kp.trans hk,hk _ _ _ _ h.b1 ht.1 ht.2,hk _ _ _ _ h.b2 ht2.1 ht2.2⟩
theorem Live.drew {W0 w0 w:World} {b L L2:Nat} {l:List Lx.Bytes} {cs cs2:Array Value} {t t2:TypeId} (h:Live W0 b l w0 w L cs t L2 cs2 t2):Live W0 b l w0 w.drew L cs t L2 cs2 t2:=
 ⟨h.wr.drew,h.kp.trans (KeepW.drew w),h.b1,h.b2⟩
theorem Live.grow {W0 w0 w w':World} {b L L2:Nat} {l:List Lx.Bytes} {cs cs2:Array Value} {t t2:TypeId} (h:Live W0 b l w0 w L cs t L2 cs2 t2) (hg:w.grownBy w' none):Live W0 b l w0 w' L cs t L2 cs2 t2:=
 ⟨h.wr.grown hg,h.kp.trans (KeepW.grown hg (fun j e=>nomatch e)),(hg.block _ (zaZ h.b1) (fun e=>nomatch e)).trans h.b1,(hg.block _ (zaZ h.b2) (fun e=>nomatch e)).trans h.b2⟩
theorem Live.box {W0 w0 w:World} {b L L2:Nat} {l:List Lx.Bytes} {cs cs2:Array Value} {t t2:TypeId} (h:Live W0 b l w0 w L cs t L2 cs2 t2) (cs3:Array Value) (t3:TypeId) {w':World} (e:w.alloc (.cells cs3 t3)=w'):Live W0 b l w0 w' L cs t w.heap.size cs3 t3:=by
 subst e;have hg:=yeZ w (.cells cs3 t3) none;exact⟨h.wr.grown hg,h.kp.trans (KeepW.alloc w _),(hg.block _ (zaZ h.b1) (fun e=>nomatch e)).trans h.b1,ydZ w _⟩
theorem Live.first {W0 w0:World} {b:Nat} {l:List Lx.Bytes} (h:Wrote W0 b l.length l w0) (cs:Array Value) (t:TypeId) {w':World} (e:w0.alloc (.cells cs t)=w'):Live W0 b l w0 w' w0.heap.size cs t w0.heap.size cs t:=by
 subst e;have hg:=yeZ w0 (.cells cs t) none;exact⟨h.grown hg,KeepW.alloc w0 _,ydZ w0 _,ydZ w0 _⟩
theorem Live.lt {W0 w0 w:World} {b L L2:Nat} {l:List Lx.Bytes} {cs cs2:Array Value} {t t2:TypeId} (h:Live W0 b l w0 w L cs t L2 cs2 t2):L<w.heap.size/\L2<w.heap.size/\b<w.heap.size:=⟨zaZ h.b1,zaZ h.b2,h.wr.lt⟩
theorem Live.lput1 {W0 w0 w:World} {b L L2:Nat} {l:List Lx.Bytes} {cs cs2:Array Value} {t t2:TypeId} (h:Live W0 b l w0 w L cs t L2 cs2 t2) (s:Lx.Bytes) (hs:s≠[]/\s.length<=1000000000) (hn:l.length+1<=1000000000) :
  Calls Tryz.prog 100 #[.pointer (some ⟨b,0,none⟩),.slice (some ⟨w.heap.size,0,none⟩) 1 1] (w.alloc (.cells #[.string ⟨s.toArray⟩] 9)) fun e w'=>
   e=.returned (.tuple #[])/\Wrote W0 b (l.length+1) (l++[s]) w'/\KeepW w w':=put1 h.wr hs hn
theorem Live.lput2 {W0 w0 w:World} {b L L2:Nat} {l:List Lx.Bytes} {cs cs2:Array Value} {t t2:TypeId} (h:Live W0 b l w0 w L cs t L2 cs2 t2) (s u:Lx.Bytes) (hs:s≠[]/\s.length<=1000000000) (hu:u≠[]/\u.length<=1000000000) (hn:l.length+2<=1000000000) :
  Calls Tryz.prog 100 #[.pointer (some ⟨b,0,none⟩),.slice (some ⟨w.heap.size,0,none⟩) 2 2] (w.alloc (.cells #[.string ⟨s.toArray⟩,.string ⟨u.toArray⟩] 9)) fun e w'=>
   e=.returned (.tuple #[])/\Wrote W0 b (l.length+2) (l++[s,u]) w'/\KeepW w w':=put2 h.wr hs hu hn
theorem oEx:Other 39 :=⟨by decide,by decide⟩
theorem zbZ {w:World} {g t:Nat} {a b c d e f k:Value} (h:w.heap[g]? =some (.cells #[a,b,c,d,e,f,k] t (0,0))) :
  w.cell? ⟨g,0,none⟩=some a/\w.cell? ⟨g,1,none⟩=some b/\w.cell? ⟨g,2,none⟩=some c/\w.cell? ⟨g,3,none⟩=some d/\w.cell? ⟨g,4,none⟩=some e/\w.cell? ⟨g,5,none⟩=some f/\w.cell? ⟨g,6,none⟩=some k:=
 ⟨zdZ h 0,zdZ h 1,zdZ h 2,zdZ h 3,zdZ h 4,zdZ h 5,zdZ h 6⟩
/-! ### plain -/
theorem Live.c7 {W0 w0 w:World} {bb L L2:Nat} {l:List Lx.Bytes} {cs2:Array Value} {t t2:TypeId} {a b c d e f k:Value} (h:Live W0 bb l w0 w L #[a,b,c,d,e,f,k] t L2 cs2 t2) :
  w.cell? ⟨L,0,none⟩=some a/\w.cell? ⟨L,1,none⟩=some b/\w.cell? ⟨L,2,none⟩=some c/\w.cell? ⟨L,3,none⟩=some d/\w.cell? ⟨L,4,none⟩=some e/\w.cell? ⟨L,5,none⟩=some f/\w.cell? ⟨L,6,none⟩=some k/\L<w.heap.size/\L2<w.heap.size/\bb<w.heap.size:=by
 obtain⟨x0,x1,x2,x3,x4,x5,x6⟩:=zbZ h.b1;exact⟨x0,x1,x2,x3,x4,x5,x6,h.lt⟩
mutual
def Sx.sizeX:Sx.Ex->Nat
 | .mk _ _ _ s t ns ps=>1+s.length+ns.length+(ns.map List.length).sum+Sx.sizeL t+Sx.sizeXs ps
def Sx.sizeXs:List Sx.Ex->Nat
 | []=>0
 | x::l=>Sx.sizeX x+Sx.sizeXs l
end
theorem Sx.sizeX_parts (x:Sx.Ex):Sx.sizeX x=1+x.s.length+x.names.length+(x.names.map List.length).sum+Sx.sizeL x.t+Sx.sizeXs x.parts:=by cases x;rw[Sx.sizeX];rfl
theorem Sx.sizeX_pos (x:Sx.Ex):1<=Sx.sizeX x:=by rw[Sx.sizeX_parts];omega
theorem Sx.sizeX_mem:∀ {l:List Sx.Ex} {x:Sx.Ex},x∈l->Sx.sizeX x<=Sx.sizeXs l
 | u::l,t,h=>by
  rw[Sx.sizeXs];rcases yTZ.1 h with rfl | h
  ·omega
  ·have:=Sx.sizeX_mem h;omega
theorem Sx.length_sizeXs:∀(l:List Sx.Ex),l.length<=Sx.sizeXs l
 | []=>by simp[Sx.sizeXs]
 | t::l=>by rw[Sx.sizeXs,yhZ];have:=Sx.length_sizeXs l;have:=Sx.sizeX_pos t;omega
def Sx.okX (x:Sx.Ex):Prop:=∃d,Sx.rightX NM d x=true
theorem Sx.rightXs_mem {N:Sx.Names} : ∀ {l:List Sx.Ex} {d0 d:Nat},Sx.rightXs N d0 d l=true->∀p∈l,Sx.rightX N d0 p=true\/Sx.rightX N d p=true
 | x::l,d0,d,h,p,hp=>by
  rw[Sx.rightXs,ygZ]at h;rcases yTZ.1 hp with rfl | hp
  ·exact .inl h.1
  ·rcases Sx.rightXs_mem h.2 p hp with h | h
   ·exact .inr h
   ·exact .inr h
theorem Sx.okX.shape {x:Sx.Ex} (h:Sx.okX x):Sx.shapeX NM x.kind x.n x.s x.t x.names x.parts.length=true/\∀p∈x.parts,Sx.okX p:=by
 obtain⟨d,h⟩:=h
 cases x with
 | mk pos k n s t ns ps=>
  cases d with
  | zero=>simp[Sx.rightX]at h
  | succ d=>
   rw[Sx.rightX,ygZ]at h;refine⟨h.1,fun p hp=>?_⟩;rcases Sx.rightXs_mem h.2 p hp with h | h
   ·exact⟨_,h⟩
   ·exact⟨_,h⟩
def SY:Sx.Says:=⟨fun n=>Lib.decDigits n.toNat,Lx.quote⟩
theorem Sx.expr_eq (x:Sx.Ex):Sx.expr SY x=
  (if x.kind=1 then [SY.digits x.n]
  else if x.kind=2 then [SY.quote x.s]
  else if x.kind=3 then [if x.n=1 then [116,114,117,101]else [102,97,108,115,101]]
  else if x.kind=4 then [x.s]
  else if x.kind=5 then [[115,101,108,102]]
  else if x.kind=6 then [110,105,108]::Sx.typL x.t
  else if x.kind=7\/x.kind=8 then(if x.kind=8 then [[110,101,119]]else [])++[x.s,[123]]++Sx.record SY 0 x.names x.parts++[[125]]
  else if x.kind=9 then Sx.first SY 7 x.parts++[[46],x.s]
  else if x.kind=10 then Sx.first SY 7 x.parts++[[46],x.s]++Sx.args SY x.parts
  else if x.kind=11 then Sx.applied SY x.parts++Sx.args SY x.parts
  else if x.kind=12 then Sx.first SY 7 x.parts++[[116,111]]++Sx.typL x.t
  else if x.kind=13\/x.kind=14 then(if x.kind=13 then [45]else [110,111,116])::Sx.first SY 6 x.parts
  else Sx.first SY (if Sx.level x.kind=3 then 4 else Sx.level x.kind) x.parts++[Sx.sign x.kind]++Sx.second SY (Sx.level x.kind+1) x.parts):=by
 cases x;rw[Sx.expr];rfl
def Sx.within (x:Sx.Ex):List Lx.Bytes:=[[40]]++Sx.expr SY x++[[41]]
def Sx.part (lv:Nat) (x:Sx.Ex):List Lx.Bytes:=if Sx.level x.kind<lv then Sx.within x else Sx.expr SY x
theorem Sx.first_head:∀ {l:List Sx.Ex} (lv:Nat) (h:0<l.length),Sx.first SY lv l=Sx.part lv (l[0]'h)
 | x::l,lv,h=>by rw[Sx.first];rfl
theorem Sx.second_head:∀ {l:List Sx.Ex} (lv:Nat) (h:1<l.length),Sx.second SY lv l=Sx.part lv (l[1]'h)
 | x::y::l,lv,h=>by rw[Sx.second];exact Sx.first_head lv (by simp)
theorem Sx.applied_head:∀ {l:List Sx.Ex} (h:0<l.length),Sx.applied SY l=if(l[0]'h).kind=9 then Sx.within (l[0]'h)else Sx.part 7 (l[0]'h)
 | x::l,h=>by
  rw[Sx.applied];simp only[List.getElem_cons_zero];unfold Sx.part;by_cases h9:x.kind=9
  ·simp[h9,Sx.within]
  ·simp[h9,Sx.within]
def Sx.listed (l:List Sx.Ex):List Lx.Bytes:=[[40]]++Sx.list SY 0 l++[[41]]
theorem Sx.args_tail:∀ {l:List Sx.Ex} (h:0<l.length),Sx.args SY l=Sx.listed l.tail
 | x::l,h=>by rw[Sx.args];rfl
end Go.Proofs.YtdncljdfmdgdaaaGreatDoor
namespace Go.Proofs.YtdncljdfmdgdaaaGreatDoor
structure Sx.Sh where
 s:Int
 n:Bool
 t:Bool
 names:Bool
 least:Int
 most:Int
def Sx.Sh.v (h:Sx.Sh):Value:=.agg #[.int .i64 h.s,.bool h.n,.bool h.t,.bool h.names,.int .i64 h.least,.int .i64 h.most]
def Sx.shapeOf (k:Int):Sx.Sh×Bool:=
 if k=1\/k=3 then(⟨0,true,false,false,0,0⟩,true)
 else if k=2 then(⟨-1,false,false,false,0,0⟩,true)
 else if k=4 then(⟨1,false,false,false,0,0⟩,true)
 else if k=5 then(⟨0,false,false,false,0,0⟩,true)
 else if k=6 then(⟨0,false,true,false,0,0⟩,true)
 else if k=7\/k=8 then(⟨2,false,false,true,0,1073741824⟩,true)
 else if k=9 then(⟨1,false,false,false,1,1⟩,true)
 else if k=10 then(⟨1,false,false,false,1,1073741824⟩,true)
 else if k=11 then(⟨0,false,false,false,1,1073741824⟩,true)
 else if k=12 then(⟨0,false,true,false,1,1⟩,true)
 else if k=13\/k=14 then(⟨0,false,false,false,1,1⟩,true)
 else if 15<=k/\k<=21 then(⟨0,false,false,false,2,2⟩,true)
 else(⟨0,false,false,false,0,0⟩,false)
def Sx.rightText (h:Sx.Sh) (s:Lx.Bytes):Bool:=if h.s<0 then NM.said s else if h.s=0 then s.isEmpty else isTok h.s s
def Sx.b2 (ok d0 rt hn nz nn k3 n1:Bool):Bool:=!ok||(d0||(!rt||((!hn&&nz)||(nn||(k3&&n1)))))
def Sx.b4 (ht t1 t0 rt:Bool):Bool:=(ht != t1)||((!ht&&t0)||(ht&&!rt))
def Sx.b7 (hn nm ul n0 ls ms:Bool):Bool:=(hn&&(nm||!ul))||((!hn&&n0)||(ls||ms))
def Sx.right0 (t:List Sx.Ty):Bool:=match t with | []=>true | p::_=>Sx.rightT NM 64 p
def Sx.good (k n : Int) (s : Lx.Bytes) (t : List Sx.Ty) (ns : List Lx.Bytes) (m : Nat) : Bool :=
  let h := Sx.shapeOf k
  !Sx.b2 h.2 false (Sx.rightText h.1 s) h.1.n (n != 0) (decide (n < 0)) (k == 3) (decide (1 < n)) &&
  (!Sx.b4 h.1.t (t.length == 1) (decide (0 < t.length)) (Sx.right0 t) &&
   !Sx.b7 h.1.names (m != ns.length) (Sx.apart NM ns) (decide (0 < ns.length)) (decide ((m : Int) < h.1.least)) (decide (h.1.most < (m : Int))))
theorem Sx.rts1 {t:List Sx.Ty} (h:t.length=1):Sx.rightTs NM 64 t=Sx.right0 t:=by
 match t,h with
 | [p],_=>simp[Sx.rightTs,Sx.right0]
theorem Sx.good_none {k n:Int} {s:Lx.Bytes} {t:List Sx.Ty} {ns:List Lx.Bytes} {m:Nat} (hk:¬(1<=k/\k<=21)):Sx.shapeX NM k n s t ns m=Sx.good k n s t ns m:=by
 have h1:Sx.shapeX NM k n s t ns m=false:=by unfold Sx.shapeX;rw[decide_eq_false hk];rfl
 have h2:(Sx.shapeOf k).2=false:=by unfold Sx.shapeOf;rw[if_neg (by omega),if_neg (by omega),if_neg (by omega),if_neg (by omega),if_neg (by omega),if_neg (by omega),if_neg (by omega),if_neg (by omega),if_neg (by omega),if_neg (by omega),if_neg (by omega),if_neg (by omega)]
 rw[h1];unfold Sx.good;simp only[h2];simp[Sx.b2]
theorem Sx.good_eq {k n:Int} {s:Lx.Bytes} {t:List Sx.Ty} {ns:List Lx.Bytes} {m:Nat} (hm:m<=1000000):Sx.shapeX NM k n s t ns m=Sx.good k n s t ns m:=by
 by_cases hk:1<=k/\k<=21
 ·have H0:k=1\/k=2\/k=3\/k=4\/k=5\/k=6\/k=7\/k=8\/k=9\/k=10\/k=11\/k=12\/k=13\/k=14\/k=15\/k=16\/k=17\/k=18\/k=19\/k=20\/k=21:=(by omega);clear hk;have H1:=fun h:t.length=1=>Sx.rts1 (t:=t) h;have H2:(m:Int)<=1000000:=(by omega);rw[yEZ];rcases t with _ | ⟨p,_ | ⟨q,r⟩⟩
  all_goals
   rcases ns with _ | ⟨a,ns⟩
   all_goals
    rcases H0 with rfl | rfl | rfl | rfl | rfl | rfl | rfl | rfl | rfl | rfl | rfl | rfl | rfl | rfl | rfl | rfl | rfl | rfl | rfl | rfl | rfl
    all_goals
     simp[Sx.shapeX,Sx.good,Sx.shapeOf,Sx.b2,Sx.b4,Sx.b7,Sx.rightText,NM,Sx.rightTs,Sx.right0,Sx.apart]
  all_goals
   constructor
   all_goals
    intro h
    (repeat' apply And.intro)
    all_goals first | omega | exact h.1 | exact h.1.1 | exact h.2.2.1 | exact h.2.2.2.1 | exact h.2.1 | exact h.2.1.2 | (simp_all;done) | (obtain⟨⟨a1,a2⟩,a3⟩:=h;simp_all;omega)
 ·exact Sx.good_none hk
end Go.Proofs.YtdncljdfmdgdaaaGreatDoor
