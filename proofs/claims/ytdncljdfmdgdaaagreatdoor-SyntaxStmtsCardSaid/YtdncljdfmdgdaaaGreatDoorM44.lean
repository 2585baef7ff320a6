/-
  A region that draws its order and makes a statement of what two calls give, in a box of its own.
-/
import Derived.Test.YtdncljdfmdgdaaaGreatDoorM43
set_option linter.unusedSimpArgs false
set_option linter.unusedVariables false
set_option maxRecDepth 100000
set_option maxHeartbeats 16000000
namespace Go.Proofs.YtdncljdfmdgdaaaGreatDoor
open Go.RowKit Go.Shelf
attribute [local go_sem] opWp zoZ zvZ zpZ
def blk:Value->Option Nat
 | .pointer (some ⟨g,_,_⟩)=>some g
 | _=>none
def stZ:Array Value:=#[.int .i64 0,.int .i64 0,.string ⟨#[]⟩,.slice none 0 0,.slice none 0 0,.slice none 0 0,.slice none 0 0]
def stC (ps kd:Int) (nm:Lx.Bytes) (vt vx vb ve:Value):Array Value:=#[.int .i64 ps,.int .i64 kd,.string ⟨nm.toArray⟩,vt,vx,vb,ve]
section
variable (K:Nat) (Wr:World) (kd:Int) (nm:Lx.Bytes) (b e:List Sx.St)
def NewI:Nat->World->Value->Prop
 | 0,w,r=>Below K Wr w/\r=undef
 | 1,w,r=>Below K Wr w/\∃g,r=.pointer (some ⟨g,0,none⟩)/\K<=g/\w.heap[g]? =some (.cells stZ 69 (0,0))
 | _,w,r=>Below K Wr w/\∃g vb ve,r=.pointer (some ⟨g,0,none⟩)/\K<=g/\w.heap[g]? =some (.cells (stC 0 kd nm (.slice none 0 0) (.slice none 0 0) vb ve) 69 (0,0))/\StRow (only w (but K none (some g))) vb b/\StRow (only w (but K none (some g))) ve e
def NewM:World->Value->Nat->World->Value->Nat->Prop:=fun w r k w' r' k'=>k<=k'/\(1<=k->r'=r)/\Sub (only w (but K none (blk r))) (only w' (but K none (blk r')))
def NewF (l:List Sx.St):Value->World->Value->Nat->Prop:=fun x w r _=>StRow (only w (but K none (blk r))) x l
def NewB:Value->World->Value->Nat->Prop:=fun x w r _=>∃vb ve,x=.agg (stC 0 kd nm (.slice none 0 0) (.slice none 0 0) vb ve)/\StRow (only w (but K none (blk r))) vb b/\StRow (only w (but K none (blk r))) ve e
def BoxIs:Value->World->Value->Nat->Prop:=fun x _ r k=>1<=k/\x=r
end
section
variable {K:Nat} {Wr:World} {kd:Int} {nm:Lx.Bytes} {b e:List Sx.St}
theorem NewF.stays {l:List Sx.St} : Stays (NewM K) (NewF K l):=fun x w r k w' r' k' hm h=>StRow.sub h hm.2.2
theorem NewB.stays:Stays (NewM K) (NewB K kd nm b e):=fun x w r k w' r' k' hm h=>by
 obtain⟨vb,ve,h1,h2,h3⟩:=h;exact⟨vb,ve,h1,h2.sub hm.2.2,h3.sub hm.2.2⟩
theorem BoxIs.stays:Stays (NewM K) BoxIs:=fun x w r k w' r' k' hm h=>⟨ymZ h.1 hm.1,h.2.trans (hm.2.1 h.1).symm⟩
theorem NewI.low {k:Nat} {w:World} {r:Value} (h:NewI K Wr kd nm b e k w r):Below K Wr w:=by
 match k,h with
 | 0,h=>exact h.1
 | 1,h=>exact h.1
 | k+2,h=>exact h.1
theorem NewI.box {k:Nat} {w:World} {r:Value} (h:NewI K Wr kd nm b e k w r):∀g,blk r=some g->g<w.heap.size:=by
 match k,h with
 | 0,h=>obtain⟨-,rfl⟩:=h;intro g hg;cases hg
 | 1,h=>obtain⟨-,g,rfl,-,h2⟩:=h;intro g' hg;injection hg with hg;subst hg;exact zaZ h2
 | k+2,h=>obtain⟨-,g,vb,ve,rfl,-,h2,-⟩:=h;intro g' hg;injection hg with hg;subst hg;exact zaZ h2
theorem Sub.but_below {w w':World} {X Y:Option Nat} (h:Below w.heap.size w w'):Sub (only w (but K X Y)) (only w' (but K X Y)):=znZ fun g hg hs=>⟨hs,h.block g hg⟩
theorem NewM.rf (w:World) (r:Value) (k:Nat):NewM K w r k w r k:=⟨ybZ _,fun _=>rfl,fun _ _ _ h=>h⟩
theorem NewM.below {w w':World} {r:Value} {k:Nat} (h:Below w.heap.size w w'):NewM K w r k w' r k:=⟨ybZ _,fun _=>rfl,Sub.but_below h⟩
theorem NewI.below (hK:K<=Wr.heap.size) {k:Nat} {w w':World} {r:Value} (h:NewI K Wr kd nm b e k w r) (hb:Below w.heap.size w w'):NewI K Wr kd nm b e k w' r:=by
 have hz:K<=w.heap.size:=ymZ hK h.low.size
 match k,h with
 | 0,h=>exact⟨h.1.trans (hb.mono hz),h.2⟩
 | 1,h=>obtain⟨h0,g,h1,h2,h3⟩:=h;exact⟨h0.trans (hb.mono hz),g,h1,h2,(hb.block g (zaZ h3)).trans h3⟩
 | k+2,h=>obtain⟨h0,g,vb,ve,h1,h2,h3,h4,h5⟩:=h;exact⟨h0.trans (hb.mono hz),g,vb,ve,h1,h2,(hb.block g (zaZ h3)).trans h3,h4.sub (Sub.but_below hb),h5.sub (Sub.but_below hb)⟩
variable {ops:Array Oper} {Q:Exit->Act->World->Prop} {a:Act} {apps:List Nat} {Fs:List (Value->World->Value->Nat->Prop)} {i:Nat} {o:Oper}
theorem OpOk.ncall {l:List Sx.St} {fn:Func} {c:Code} {f:FuncId} {xs:Array Operand} {ats:Array TypeId} {args:Array Value} (hK:K<=Wr.heap.size) (hi:apps.contains i=false) (hg:o.guard=none) (hF:nth Fs i=NewF K l)
  (ho:o.op=.call { callee:=.value (.func f),args:=xs,argTypes:=ats }) (hf : Tryz.prog.funcs[f]? =some fn) (hname:(fn.name== "runtime.NumGoroutine")=false) (hb:fn.body=some c)
  (ha:∀(ρ:Operand->Value) (w:World) (r:Value) (k:Nat),Ev ops.toList a Fs i ρ w r k->xs.map ρ=args)
  (h:∀w,Below K Wr w->Calls Tryz.prog f args w fun e w'=>∃v,e=.returned v/\StRow (only w' (since w.heap.size)) v l/\Below w.heap.size w w'):OpOk Tryz.prog Q ops a apps (NewI K Wr kd nm b e) (NewM K) (nth Fs) i o:=
 OpOk.plain hi hg fun ρ u L w r k h1 h2 h3 h4 h5 h6 h7 h8 h9 h10 h11 h12 C hC=>zcpZ ho hf hname hb (h5 f) (ha ρ w r k (Ev.mk' h1 h2 h3 h4 h5 h6 h7 h8 h9 h10)) ((h w h12.low).mono fun e w' ⟨v,he,hr,hb5⟩=>
  ⟨v,he,hC.o _ _ _ (NewM.below hb5) (h12.below hK hb5) (zboZ hF (hr.sub (znZ fun g hg hs=>⟨zxZ.2 ⟨ymZ (ymZ hK h12.low.size) (zmZ.1 hs),by simp,fun e=>by
   have h1:=h12.box g e.symm;have h2:=zmZ.1 hs
   omega⟩,rfl⟩)))⟩)
theorem OpOk.nbuild {d1 d2 q1 q2:Nat} (hi:apps.contains i=false) (hg:o.guard=none) (hF:nth Fs i=NewB K kd nm b e) (hq1:nth Fs q1=NewF K b) (hr1:reads ops.toList i d1 q1=true) (hq2:nth Fs q2=NewF K e) (hr2:reads ops.toList i d2 q2=true)
  (h:∀(ρ:Operand->Value) (w:World) (r:Value) (k:Nat),Ev ops.toList a Fs i ρ w r k->∀(A1 A2:Option Addr) (n1 c1 n2 c2:Nat),ρ (.tmp d1)=.slice A1 n1 c1->ρ (.tmp d2)=.slice A2 n2 c2->∀C:Value->World->Prop,C (.agg (stC 0 kd nm (.slice none 0 0) (.slice none 0 0) (.slice A1 n1 c1) (.slice A2 n2 c2))) w->opWp Tryz.prog o ρ w C):OpOk Tryz.prog Q ops a apps (NewI K Wr kd nm b e) (NewM K) (nth Fs) i o:=
 OpOk.plain hi hg fun ρ u L w r k h1 h2 h3 h4 h5 h6 h7 h8 h9 h10 h11 h12 C hC=>by have E:=Ev.mk' h1 h2 h3 h4 h5 h6 h7 h8 h9 h10;have g1:=E.x d1 q1 hr1 hq1;have g2:=E.x d2 q2 hr2 hq2;obtain⟨A1,c1,e1,-,-⟩:=id g1;obtain⟨A2,c2,e2,-,-⟩:=id g2;rw[e1]at g1;rw[e2]at g2;exact h ρ w r k E _ _ _ _ _ _ e1 e2 C (hC.o _ _ _ (NewM.rf w r k) h12 (zboZ hF ⟨_,_,rfl,g1,g2⟩))
theorem OpOk.nalloc {i2:Nat} (hK:K<=Wr.heap.size) (hne:i≠i2) (hg:o.guard=none) (hF:nth Fs i=BoxIs)
  (h:∀(ρ:Operand->Value) (w:World) (C:Value->World->Prop),C (.pointer (some ⟨w.heap.size,0,none⟩)) (w.alloc (.cells stZ 69))->opWp Tryz.prog o ρ w C):OpOk Tryz.prog Q ops a [i,i2] (NewI K Wr kd nm b e) (NewM K) (nth Fs) i o:=by
 intro ρ u L w r k h1 h2 h3 h4 h5 h6 h7 h8 h9 H2 H1 H0 C hC;obtain rfl:k=0:=by have:=H1 i 0 rfl;have H3:¬0<k:=fun hlt=>h8 (this.2 hlt);omega
 rw[zceZ (by simp)]at hC;unfold guarded;rw[hg];obtain⟨hb,rfl⟩:=H0;have hz:K<=w.heap.size:=ymZ hK hb.size;refine h ρ w C (hC.o _ _ (.pointer (some ⟨w.heap.size,0,none⟩)) ⟨by omega,fun e=>by omega,znZ fun g hg hs=>?_⟩ ⟨hb.alloc hz _,w.heap.size,rfl,hz,ydZ w _⟩ ?_)
 ·obtain⟨p1,p2,p3⟩:=zxZ.1 hs;refine⟨zxZ.2 ⟨p1,p2,fun e=>?_⟩,((yqZ w.heap.size w).alloc (ybZ _) _).block g hg⟩;injection e with e;omega
 ·rw[hF];exact⟨ybZ _,rfl⟩
theorem zrmZ {P:Program} {o:Oper} {ρ:Operand->Value} {w:World} {C:Value->World->Prop} {x y:Operand} {g:Nat} {cs:Array Value} {i0 i1:Int} {s2:ByteArray} {A3 A4 A5 A6:Option Addr} {n3 n4 n5 n6 c3 c4 c5 c6:Nat} (ho:o.op=.store 69 x y) (hx:ρ x=.pointer (some ⟨g,0,none⟩)) (hy:ρ y=.agg #[.int .i64 i0,.int .i64 i1,.string s2,.slice A3 n3 c3,.slice A4 n4 c4,.slice A5 n5 c5,.slice A6 n6 c6])
  (hw:w.heap[g]? =some (.cells cs 69 (0,0))) (hcs:cs.size=7)
  (h:∀w' v,w'.heap[g]? =some (.cells #[.int .i64 i0,.int .i64 i1,.string s2,.slice A3 n3 c3,.slice A4 n4 c4,.slice A5 n5 c5,.slice A6 n6 c6] 69 (0,0))->(∀j,j≠g->w'.heap[j]? =w.heap[j]?)->(∀B W0,B<=g->Below B W0 w->Below B W0 w')->C v w'):opWp Tryz.prog o ρ w C:=by
 obtain⟨l,hl⟩:=zE (cs.toList);obtain⟨z0,z1,z2,z3,z4,z5,z6,hz⟩:∃z0 z1 z2 z3 z4 z5 z6,cs=#[z0,z1,z2,z3,z4,z5,z6]:=by
  have h7:l.length=7:=by rw[<-hl,Array.length_toList,hcs]
  match l,h7 with
  | [z0,z1,z2,z3,z4,z5,z6],_=>exact⟨z0,z1,z2,z3,z4,z5,z6,Array.toList_inj.1 hl⟩
 subst hz
 cases o with
 | mk dst op type pos after guard=>
  subst ho;obtain⟨x0,x1,x2,x3,x4,x5,x6⟩:=zbZ hw;obtain⟨f0,f1,f2,f3,f4,f5,f6⟩:=zcsZ hw;have H0:=zaZ hw;go_simp;refine h _ _ ?_ ?_ ?_
  ·exact yMZ _ _ 6 _ _ (.slice A6 n6 c6) (yMZ _ _ 5 _ _ (.slice A5 n5 c5) (yMZ _ _ 4 _ _ (.slice A4 n4 c4) (yMZ _ _ 3 _ _ (.slice A3 n3 c3) (yMZ _ _ 2 _ _ (.string s2) (yMZ _ _ 1 _ _ (.int .i64 i1) (yMZ _ _ 0 _ _ (.int .i64 i0) hw))))))
  ·intro j hj;exact(yuZ _ _ _ _ hj).trans ((yuZ _ _ _ _ hj).trans ((yuZ _ _ _ _ hj).trans ((yuZ _ _ _ _ hj).trans ((yuZ _ _ _ _ hj).trans ((yuZ _ _ _ _ hj).trans (yuZ _ _ _ _ hj))))))
  ·intro B W0 hB hb;exact((((((hb.setCell hB _).setCell hB _).setCell hB _).setCell hB _).setCell hB _).setCell hB _).setCell hB _
theorem OpOk.nstore {i2 d1 d2 q2:Nat} (hne:i≠i2) (hg:o.guard=none) (hF:nth Fs i2=fun _ _ _ _=>True) (hF1:nth Fs i=BoxIs) (hr1:reads ops.toList i2 d1 i=true) (hq2:nth Fs q2=NewB K kd nm b e) (hr2:reads ops.toList i2 d2 q2=true)
  (ho:o.op=.store 69 (.tmp d1) (.tmp d2)):OpOk Tryz.prog Q ops a [i,i2] (NewI K Wr kd nm b e) (NewM K) (nth Fs) i2 o:=by
 intro ρ u L w r k h1 h2 h3 h4 h5 h6 h7 h8 h9 H3 H1 H4 C hC;have H5:=H1 i 0 rfl;have H2:=H1 i2 1 rfl;have E:=Ev.mk' (Fs:=Fs) h1 h2 h3 h4 h5 h6 h7 h8 h9 H3;have H0:=hr1;unfold reads at H0;simp only[ygZ,ytZ]at H0;obtain rfl:k=1:=by have a1:=H5.1 (h6 i H0.2);have a2:¬1<k:=fun hlt=>h8 (H2.2 hlt);omega
 rw[zceZ (by simp)]at hC;unfold guarded;rw[hg];have hx:=(E.x d1 i hr1 hF1).2;obtain⟨vb,ve,hy,g1,g2⟩:=E.x d2 q2 hr2 hq2;obtain⟨hb,g,rfl,hKg,hbox⟩:=H4;obtain⟨A5,c5,rfl,-,-⟩:=id g1;obtain⟨A6,c6,rfl,-,-⟩:=id g2;refine zrmZ (P:= Tryz.prog) ho hx hy hbox rfl fun w' v q1 q3 q4=>?_;have hs:Sub (only w (but K none (some g))) (only w' (but K none (some g))):=znZ fun j hj hs=>⟨hs,q3 j fun e=>(zxZ.1 hs).2.2 (by rw[e])⟩;refine hC.o v w' (.pointer (some ⟨g,0,none⟩)) ⟨by omega,fun _=>rfl,hs⟩ ⟨q4 K Wr hKg hb,g,_,_,rfl,hKg,q1,StRow.sub g1 hs,StRow.sub g2 hs⟩ ?_;rw[hF];trivial
end
structure StIn (K M gb:Nat) (Wr w0:World) (cs:Array Value) (wr:World):Prop where
 hK:K<=gb
 hM:gb<M
 b:Below K Wr wr
 box:wr.heap[gb]? =some (.cells cs 69 (0,0))
 q:∀gg,K<=gg->gg≠gb->gg<M->wr.heap[gg]? =w0.heap[gg]?
 z:M<=wr.heap.size
theorem Below.grow {B:Nat} {w0 w w':World} {row:Option Nat} (hb:Below B w0 w) (hB:B<=w.heap.size) (hg:w.grownBy w' row) (hr:∀r,row=some r->B<=r):Below B w0 w':=
 ⟨hg.os.trans hb.os,hg.tape.trans hb.tape,hg.output.trans hb.output,ymZ hb.size hg.size,fun k hk=>(hg.block k (by omega) fun e=>by have:=hr k e.symm;omega).trans (hb.block k hk)⟩
theorem StIn.push {α:Type} {R:World->List Value->α->Prop} (hR:∀W W' cs t,Sub W W'->R W cs t->R W' cs t) {K M gb e size j:Nat} {Wr w0 wr W9 w9:World} {cs:Array Value} {v0 v9:Value} {l l':List α} (hs:StIn K M gb Wr w0 cs wr) (hrow:Own R e size M none wr v0 l)
  (hb:Below wr.heap.size wr W9) (hown:Own R e size M none w9 v9 l') (hgr:W9.grownBy w9 v0.ownBlock) :
  StIn K M gb Wr w0 (cs.setIfInBounds j v9) (w9.setCell ⟨gb,j,none⟩ v9)/\Own R e size M none (w9.setCell ⟨gb,j,none⟩ v9) v9 l':=by
 have hK:=hs.hK;have hM:=hs.hM;have H1:∀gg,gg≠gb->(w9.setCell ⟨gb,j,none⟩ v9).heap[gg]? =w9.heap[gg]? :=fun gg h=>yuZ _ _ _ _ h;have hz:=hs.z;have H2:=hb.size;have H3:=hgr.size;have H0:∀gg,gg<M->w9.heap[gg]? =wr.heap[gg]? :=fun gg h=>(hgr.block gg (by omega) (fun e=>by have:=(hrow.lt gg e.symm).1;omega)).trans (hb.block gg (by omega));refine⟨⟨hK,hM,?_,?_,fun gg h1 h2 h3=>?_,?_⟩,hown.keep hR fun gg _ h _=>H1 gg (by omega)⟩
 ·exact(Below.grow (hs.b.trans (hb.mono (by omega))) (by omega) hgr (fun r e=>by have:=(hrow.lt r e).1;omega)).setCell hK _
 ·exact yMZ _ _ j _ _ v9 ((H0 gb hM).trans hs.box)
 ·rw[H1 gg h2,H0 gg h3];exact hs.q gg h1 h2 h3
 ·simp[World.setCell];omega
theorem StIn.kz {K M gb:Nat} {Wr w0 wr:World} {cs:Array Value} (hs:StIn K M gb Wr w0 cs wr):K<=wr.heap.size:=by
 have:=hs.hK;have:=hs.hM;have:=hs.z;omega
theorem StIn.go {K M gb:Nat} {Wr w0 wr w9:World} {cs:Array Value} (hs:StIn K M gb Wr w0 cs wr) (hb:Below wr.heap.size wr w9):StIn K M gb Wr w0 cs w9:=
 ⟨hs.hK,hs.hM,hs.b.trans (hb.mono hs.kz),(hb.block gb (zaZ hs.box)).trans hs.box,fun gg h1 h2 h3=>(hb.block gg (yJZ h3 hs.z)).trans (hs.q gg h1 h2 h3),ymZ hs.z hb.size⟩
theorem StIn.first {K gb:Nat} {Wr w w0:World} {ps z kd:Int} {nm:Lx.Bytes} {vt vx vb ve:Value} (hb:Below K Wr w) (hK:K<=gb) (hbox:w.heap[gb]? =some (.cells (stC z kd nm vt vx vb ve) 69 (0,0))) (h:w.setCell ⟨gb,0,none⟩ (.int .i64 ps)=w0) :
  StIn K w0.heap.size gb Wr w0 (stC ps kd nm vt vx vb ve) w0/\∀ {v:Value} {l:List Sx.St},StRow (only w (but K none (some gb))) v l->StRow (only w0 (but K none (some gb))) v l:=by
 subst h;refine⟨⟨hK,?_,hb.setCell hK _,yMZ _ _ 0 _ _ (.int .i64 ps) hbox,fun _ _ _ _=>rfl,ybZ _⟩,fun h=>h.sub (znZ fun g hg hs=>⟨hs,yuZ _ _ _ _ fun e=>(zxZ.1 hs).2.2 (by rw[e])⟩)⟩;have:=zaZ hbox;simp[World.setCell];omega
theorem StIn.next {K M gb:Nat} {Wr w0 wr:World} {cs:Array Value} (hs:StIn K M gb Wr w0 cs wr):StIn K wr.heap.size gb Wr wr cs wr:=⟨hs.hK,yJZ hs.hM hs.z,hs.b,hs.box,fun _ _ _ _=>rfl,ybZ _⟩
theorem StRow.wide {K gb:Nat} {w w':World} {v:Value} {l:List Sx.St} (h:StRow (only w (but K none (some gb))) v l) (hq:∀gg,K<=gg->gg≠gb->gg<w.heap.size->w'.heap[gg]? =w.heap[gg]?):StRow (only w' (since K)) v l:=
 h.sub (znZ fun g hg hs=>by
  obtain⟨p1,p2,p3⟩:=zxZ.1 hs
  exact⟨zmZ.2 p1,hq g p1 (fun e=>p3 (by rw[e])) hg⟩)
theorem zyeZ:(Tryz.prog.info? 69).map (fun i=>(i.zero,i.size,i.bytes))=some (some (.agg #[.int .i64 0,.int .i64 0,.string ⟨#[]⟩,.slice none 0 0,.slice none 0 0,.slice none 0 0,.slice none 0 0]),7,128):=by kernel_rfl
theorem IsSt.made {W:World} {ps k:Int} {nm:Lx.Bytes} {vt vx vb ve:Value} {t:List Sx.Ty} {x:List Sx.Ex} {b e:List Sx.St} (h1:TyRow W vt t) (h2:ExRow W vx x) (h3:StRow W vb b) (h4:StRow W ve e):IsSt W (.agg (stC ps k nm vt vx vb ve)) (.mk ps k nm t x b e):=by
 obtain⟨A,c,rfl,h5,h6⟩:=h3;obtain⟨A',c',rfl,h7,h8⟩:=h4;rw[IsSt];exact⟨vt,vx,A,c,A',c',rfl,h1,h2,h5,h6,h7,h8⟩
theorem Own.sts_since {e L:Nat} {w:World} {v:Value} {l:List Sx.St} (h:Own RSt e 7 L none w v l):StRow (only w (since L)) v l:=h.sts.sub (znZ fun g hg hs=>⟨zmZ.2 (zxZ.1 hs).1,rfl⟩)
def OwnSsOk (l:List Sx.St):Prop:=∀(v:Value) (W:World),StRow W v l->
 Calls Tryz.prog 37 #[v] W fun e W'=>∃v',e=.returned v'/\StRow (only W' (since W.heap.size)) v' l/\Below W.heap.size W W'
theorem zpaZ (l:List Sx.St) (hsz:Sx.sizeSs l<=1000000) (ih:∀s∈l,OwnSsOk s.body/\OwnSsOk s.els):OwnSsOk l:=by
 intro v W hv;have Jz:=Sx.length_sizeSs l;obtain⟨A1,c1,rfl,hca,hra⟩:=hv;have HV:=zh (show StRow W (.slice A1 l.length c1) l from⟨A1,c1,rfl,hca,hra⟩);obtain⟨k,hk⟩:=zE (l.length);rw[hk]at HV ⊢;have k0:(0:Int)<=(k:Int):=by omega
 have k1:(k:Int)<=1000000:=by omega
 obtain⟨L,hL⟩:=zE (W.heap.size);have HK:=zh hk;have Jo:=zh (show k<=1000000 by omega);have Jt:=zh hsz;have Jc:=zh ih;have HL:=zh hL;clear hca hra Jz hk hsz ih hL;go_enter Tryz.func37, Tryz.ntmps37;go_wp2_with fail;go_loopg [3,4,5,6,7] k (fun i v3 v4 v5 v6 v7 wr=>∃(m:Nat) (A:Option Addr) (c:Nat),i=k-m/\v3=.slice A m c/\v4=.int .i64 (m:Nat)/\m<=k/\Own RSt 69 7 L none wr (.slice A m c) (l.take m)/\Below L W wr)
 case atStart=>exact⟨0,none,0,rfl,rfl,rfl,yxZ _,Own.nil,yqZ _ _⟩
 case round=>
  obtain⟨m,A,c,hi,rfl,rfl,hm,ho,hb⟩:=hrel;obtain⟨wo,rfl⟩:∃w,w=wr:=⟨_,rfl⟩;have HI:=zh hi;have HO:=zh ho;have Hw:=zh hb;have m0:(0:Int)<=(m:Int):=(by omega);clear hi ho hb;by_cases hlt:m<k
  ·have Jh:(m:Int)<(k:Int):=(by omega);have U4:IntKind.i64.wrap ((m:Int)+1)=(m:Int)+1:=(by rw[yQZ];omega);have H8:m<l.length:=(by have:=HK.o;omega);obtain⟨g,off,At,ct,Ax,cx,Ab,cb,Ae,ce,rfl,hty,hc5⟩:=HV.o.spot m H8;rw[HL.o]at hc5;have H2:=yfZ H8;have J1:=zh (ykZ H8);have Ja:=zh (show(l.take m).length=m by rw[yUZ];omega);obtain⟨p,hpe⟩:=zE (l[m]'H8);rw[hpe]at hty hc5 H2 J1;obtain⟨lm,hlm⟩:=zE (l.take m);rw[hlm]at HO Ja J1;have Jw:=Sx.sizeS_mem H2;have Jy:=Sx.sizeS_parts p;have Hs:=Sx.length_size p.t;have Jp:=Sx.length_sizeXs p.x;obtain⟨D0,d0,D1,d1,D2,d2,D3,d3,Hk,hT,hX,hB,hE⟩:=hty.agg;simp only[Value.agg.injEq,ykbZ,ygbZ,Value.slice.injEq,true_and,ymbZ]at Hk;obtain⟨⟨rfl,rfl⟩,⟨rfl,rfl⟩,⟨rfl,rfl⟩,rfl,rfl⟩:=Hk;obtain⟨tl,htl⟩:=zE (p.t.length);obtain⟨xl,hxl⟩:=zE (p.x.length);obtain⟨ps,hps⟩:=zE (p.pos);obtain⟨kd,hkd⟩:=zE (p.kind);obtain⟨nm,hnm⟩:=zE (p.name);have Hd:=zh (show tl<=1000000/\xl<=1000000/\Sx.sizeL p.t<=1000000/\Sx.sizeXs p.x<=1000000 by have:=Jt.o;omega);rw[htl]at hT;rw[hxl]at hX;rw[htl,hxl,hps,hkd,hnm]at hc5;obtain⟨K,hKK⟩:=zE (wo.heap.size);have H5:=zh hc5;have HT:=zh hT;have HX:=zh hX;have Jd:=zh htl;have J9:=zh hxl;have Jk:=zh (show p=.mk ps kd nm p.t p.x p.body p.els by cases p;subst hps hkd hnm;rfl);have J3:=zh hKK;have J7:=zh (show L<=K by rw[<-hKK,<-HL.o];exact Hw.o.size);have H0:=zh (fun X (h:Below K wo X)=>(show Below L W X from Hw.o.trans (h.mono J7.o)));have Jn:=zh (fun X (h:Below K wo X)=>(show StRow X (.slice Ab p.body.length cb) p.body from hB.below (by rw[HL.o];exact H0.o X h)));have U3:=zh (fun X (h:Below K wo X)=>(show StRow X (.slice Ae p.els.length ce) p.els from hE.below (by rw[HL.o];exact H0.o X h)));have Jg:=zh (Jc.o p H2).1;have Jq:=zh (Jc.o p H2).2;have J2:=zh (show K<=wo.heap.size by rw[hKK];exact ybZ _);clear hty hc5 H2 Jw Jy Hs Jp hT hX hB hE htl hxl hps hkd hnm hKK hpe hlm;go_upto_region 5 with fail
   obtain⟨Fs,hFs⟩:∃F:List (Value->World->Value->Nat->Prop),[IsF (.slice (some ⟨g,off,none⟩) k c1),IsF (.int .i64 (m:Int)),IsF (.pointer (some ⟨g,off+m * 7,none⟩)),IsF (.pointer (some ⟨g,off+m * 7+1,none⟩)),IsF (.int .i64 kd),IsF (.slice (some ⟨g,off,none⟩) k c1),IsF (.int .i64 (m:Int)),IsF (.pointer (some ⟨g,off+m * 7,none⟩)),IsF (.pointer (some ⟨g,off+m * 7+2,none⟩)),IsF (.string ⟨nm.toArray⟩),IsF (.slice (some ⟨g,off,none⟩) k c1),IsF (.int .i64 (m:Int)),IsF (.pointer (some ⟨g,off+m * 7,none⟩)),IsF (.pointer (some ⟨g,off+m * 7+5,none⟩)),IsF (.slice Ab p.body.length cb),NewF K p.body,IsF (.slice (some ⟨g,off,none⟩) k c1),IsF (.int .i64 (m:Int)),IsF (.pointer (some ⟨g,off+m * 7,none⟩)),IsF (.pointer (some ⟨g,off+m * 7+6,none⟩)),IsF (.slice Ae p.els.length ce),NewF K p.els,NewB K kd nm p.body p.els,BoxIs,fun _ _ _ _=>True]=F:=⟨_,rfl⟩;obtain⟨F0,F1,F2,F3,F4,F5,F6,F7,F8,F9,F10,F11,F12,F13,F14,F15,F16,F17,F18,F19,F20,F21,F22,F23,F24,-⟩:=zcgZ hFs;have H3:AllStay (NewM K) Fs:=(by rw[<-hFs];repeat (first | exact .nil | refine .cons (by first | exact IsF.stays | exact NewF.stays | exact NewB.stays | exact BoxIs.stays | exact fun _ _ _ _ _ _ _ _ _=>trivial) ?_));clear hFs;refine zbcZ (by kernel_rfl) [23,24] (NewI K wo kd nm p.body p.els) (NewM K) Fs undef (by kernel_rfl) (by kernel_rfl) (by kernel_rfl) (by kernel_rfl) (by kernel_rfl) H3 (n:=25) (by kernel_rfl) ⟨Below.drewN (yqZ _ _) 1,rfl⟩ ?_ ?_
   ·repeat' first | refine OpsOk.cons ?_ ?_ | fail
    ·exact OpOk.mov rfl rfl F0 NewM.rf rfl fun ρ w r k E=>E.n 0 (by kernel_rfl)
    ·exact OpOk.mov rfl rfl F1 NewM.rf rfl fun ρ w r k E=>E.n 4 (by kernel_rfl)
    ·refine OpOk.val rfl rfl F2 NewM.rf fun ρ w r k E hI K hK=>?_;have e114:=E.e 14 0 (by kernel_rfl) F0;have e115:=E.e 15 1 (by kernel_rfl) F1;obtain⟨hg,e0,e1,e2,e3,e4,e5,e6⟩:=H5.o w (H0.o w hI.low);go_simp;exact hK
    ·refine OpOk.val rfl rfl F3 NewM.rf fun ρ w r k E hI K hK=>?_;have e116:=E.e 16 2 (by kernel_rfl) F2;obtain⟨hg,e0,e1,e2,e3,e4,e5,e6⟩:=H5.o w (H0.o w hI.low);go_simp;exact hK
    ·refine OpOk.val rfl rfl F4 NewM.rf fun ρ w r k E hI K hK=>?_;have e117:=E.e 17 3 (by kernel_rfl) F3;obtain⟨hg,e0,e1,e2,e3,e4,e5,e6⟩:=H5.o w (H0.o w hI.low);go_simp;exact hK
    ·exact OpOk.mov rfl rfl F5 NewM.rf rfl fun ρ w r k E=>E.n 0 (by kernel_rfl)
    ·exact OpOk.mov rfl rfl F6 NewM.rf rfl fun ρ w r k E=>E.n 4 (by kernel_rfl)
    ·refine OpOk.val rfl rfl F7 NewM.rf fun ρ w r k E hI K hK=>?_;have e119:=E.e 19 5 (by kernel_rfl) F5;have e120:=E.e 20 6 (by kernel_rfl) F6;obtain⟨hg,e0,e1,e2,e3,e4,e5,e6⟩:=H5.o w (H0.o w hI.low);go_simp;exact hK
    ·refine OpOk.val rfl rfl F8 NewM.rf fun ρ w r k E hI K hK=>?_;have e121:=E.e 21 7 (by kernel_rfl) F7;obtain⟨hg,e0,e1,e2,e3,e4,e5,e6⟩:=H5.o w (H0.o w hI.low);go_simp;exact hK
    ·refine OpOk.val rfl rfl F9 NewM.rf fun ρ w r k E hI K hK=>?_;have e122:=E.e 22 8 (by kernel_rfl) F8;obtain⟨hg,e0,e1,e2,e3,e4,e5,e6⟩:=H5.o w (H0.o w hI.low);go_simp;exact hK
    ·exact OpOk.mov rfl rfl F10 NewM.rf rfl fun ρ w r k E=>E.n 0 (by kernel_rfl)
    ·exact OpOk.mov rfl rfl F11 NewM.rf rfl fun ρ w r k E=>E.n 4 (by kernel_rfl)
    ·refine OpOk.val rfl rfl F12 NewM.rf fun ρ w r k E hI K hK=>?_;have e124:=E.e 24 10 (by kernel_rfl) F10;have e125:=E.e 25 11 (by kernel_rfl) F11;obtain⟨hg,e0,e1,e2,e3,e4,e5,e6⟩:=H5.o w (H0.o w hI.low);go_simp;exact hK
    ·refine OpOk.val rfl rfl F13 NewM.rf fun ρ w r k E hI K hK=>?_;have e126:=E.e 26 12 (by kernel_rfl) F12;obtain⟨hg,e0,e1,e2,e3,e4,e5,e6⟩:=H5.o w (H0.o w hI.low);go_simp;exact hK
    ·refine OpOk.val rfl rfl F14 NewM.rf fun ρ w r k E hI K hK=>?_;have e127:=E.e 27 13 (by kernel_rfl) F13;obtain⟨hg,e0,e1,e2,e3,e4,e5,e6⟩:=H5.o w (H0.o w hI.low);go_simp;exact hK
    ·exact OpOk.ncall J2.o rfl rfl F15 rfl Tryz.func37 (by kernel_rfl) rfl (fun ρ w r k E=>by simp only[yIZ,yPZ,yRZ,E.e 28 14 (by kernel_rfl) F14]) fun w hb=>Jg.o _ w (Jn.o w hb)
    ·exact OpOk.mov rfl rfl F16 NewM.rf rfl fun ρ w r k E=>E.n 0 (by kernel_rfl)
    ·exact OpOk.mov rfl rfl F17 NewM.rf rfl fun ρ w r k E=>E.n 4 (by kernel_rfl)
    ·refine OpOk.val rfl rfl F18 NewM.rf fun ρ w r k E hI K hK=>?_;have e130:=E.e 30 16 (by kernel_rfl) F16;have e131:=E.e 31 17 (by kernel_rfl) F17;obtain⟨hg,e0,e1,e2,e3,e4,e5,e6⟩:=H5.o w (H0.o w hI.low);go_simp;exact hK
    ·refine OpOk.val rfl rfl F19 NewM.rf fun ρ w r k E hI K hK=>?_;have e132:=E.e 32 18 (by kernel_rfl) F18;obtain⟨hg,e0,e1,e2,e3,e4,e5,e6⟩:=H5.o w (H0.o w hI.low);go_simp;exact hK
    ·refine OpOk.val rfl rfl F20 NewM.rf fun ρ w r k E hI K hK=>?_;have e133:=E.e 33 19 (by kernel_rfl) F19;obtain⟨hg,e0,e1,e2,e3,e4,e5,e6⟩:=H5.o w (H0.o w hI.low);go_simp;exact hK
    ·exact OpOk.ncall J2.o rfl rfl F21 rfl Tryz.func37 (by kernel_rfl) rfl (fun ρ w r k E=>by simp only[yIZ,yPZ,yRZ,E.e 34 20 (by kernel_rfl) F20]) fun w hb=>Jq.o _ w (U3.o w hb)
    ·refine OpOk.nbuild (d1:=29) (d2:=35) rfl rfl F22 F15 (by kernel_rfl) F21 (by kernel_rfl) fun ρ w r k E B1 B2 n1 d1 n2 d2 g1 g2 C hC=>?_;have e118:=E.e 18 4 (by kernel_rfl) F4;have e123:=E.e 23 9 (by kernel_rfl) F9;go_simp;exact hC
    ·refine OpOk.nalloc J2.o (by decide) rfl F23 fun ρ w C hC=>?_;go_simp;exact hC
    ·exact OpOk.nstore (i:=23) (d1:=5) (d2:=36) (q2:=22) (by decide) rfl F24 F23 (by kernel_rfl) F22 (by kernel_rfl) rfl
    ·exact .nil
   ·intro uq wq rq hI hF;have f23:uq 23=rq:=(zbqZ F23 (hF 23 (by decide))).2;obtain⟨hbq,gb,vb,ve,hrq,hgb,H9,Je,Hk⟩:=hI;rw[hrq]at f23;simp only[yyZ,fillAct,Act.put,yoZ,yzZ,yAZ,f23];clear hF f23 hrq F0 F1 F2 F3 F4 F5 F6 F7 F8 F9 F10 F11 F12 F13 F14 F15 F16 F17 F18 F19 F20 F21 F22 F23 F24 H3;have H9:wq.heap[gb]? =some (.cells #[.int .i64 0,.int .i64 kd,.string ⟨nm.toArray⟩,.slice none 0 0,.slice none 0 0,vb,ve] 69 (0,0)):=H9;have Jx:=zaZ H9;obtain⟨x0,x1,x2,x3,x4,x5,x6⟩:=zbZ H9;obtain⟨f0,f1,f2,f3,f4,f5,f6⟩:=zcsZ H9;obtain⟨hg,e0,e1,e2,e3,e4,e5,e6⟩:=H5.o wq (H0.o wq hbq);have J6:=zh (fun w6 (h:wq.setCell ⟨gb,0,none⟩ (.int .i64 ps)=w6)=>StIn.first (z:=0) (vt:=.slice none 0 0) (vx:=.slice none 0 0) hbq hgb H9 h);have Hv:=zh (And.intro Je Hk);clear H9 hbq Je Hk;go_upto_region 7 with fail
    obtain⟨w6,hw6⟩:=zE (wq.setCell ⟨gb,0,none⟩ (.int .i64 ps));rw[hw6];obtain⟨hs6,Ht⟩:=J6.o w6 hw6;have Hg:=zh (And.intro (Ht Hv.o.1) (Ht Hv.o.2));obtain⟨M,hM⟩:=zE (w6.heap.size);rw[hM]at hs6;have J8:=zh hs6;have HM:=zh hM;clear hs6 Ht hw6 hM J6 Hv Jx x0 x1 x2 x3 x4 x5 x6 f0 f1 f2 f3 f4 f5 f6 hg e0 e1 e2 e3 e4 e5 e6 hgb;obtain⟨hg,e0,e1,e2,e3,e4,e5,e6⟩:=H5.o w6 (H0.o w6 J8.o.b);go_wp2_with fail;clear hg e0 e1 e2 e3 e4 e5 e6;go_loopg [6] tl (fun i v wr=>∃(m2:Nat) (A2:Option Addr) (c2:Nat),i=tl-m2/\v=.int .i64 (m2:Nat)/\m2<=tl/\StIn K M gb wo w6 (stC ps kd nm (.slice A2 m2 c2) (.slice none 0 0) vb ve) wr/\Own RTy 26 5 M none wr (.slice A2 m2 c2) (p.t.take m2))
    case atStart=>exact⟨0,none,0,rfl,rfl,yxZ _,J8.o,Own.nil⟩
    case round=>
     obtain⟨m2,A2,c2,hi,rfl,hm2,hs,ho⟩:=hrel;obtain⟨w7,rfl⟩:∃w,w=wr:=⟨_,rfl⟩;have Hp:=zh hi;have H1:=zh hs;have Hf:=zh ho;have n0:(0:Int)<=(m2:Int):=(by omega);have n1:(m2:Int)<=1000000:=(by have:=Hd.o;omega);clear hi hs ho;obtain⟨hg,e0,e1,e2,e3,e4,e5,e6⟩:=H5.o w7 (H0.o w7 H1.o.b);by_cases hlt2:m2<tl
     ·have Hh:(m2:Int)<(tl:Int):=(by omega);have J0:IntKind.i64.wrap ((m2:Int)+1)=(m2:Int)+1:=(by rw[yQZ];omega);have H8:m2<p.t.length:=(by have:=Jd.o;omega);clear hg e0 e1 e2 e3 e4 e5 e6;obtain⟨g2,off2,An1,cn1,Ae1,ce1,Aq,cq,rfl,hty,hct⟩:=HT.o.spot m2 H8;rw[HL.o]at hct;have Hc:=zh (ykZ H8);have Hb:=zh (show(p.t.take m2).length=m2 by rw[yUZ];omega);have H2:=yfZ H8;obtain⟨t,hte⟩:=zE (p.t[m2]'H8);rw[hte]at hct hty H2 Hc;have Hy:=zh (show Sx.size t<=1000000 by have:=Sx.size_mem H2;have:=Hd.o;omega);have Hz:=zh (fun X (hX:Below w7.heap.size w7 X)=>zjeZ 1000000 t Hy.o (ybZ _) _ X (IsTy.below (by rw[HL.o];exact H0.o X (H1.o.go hX).b) _ _ hty));have Ho:=zh hct;have Hn:=zh hlt2;have Hi:=zh (fun b (e:(Value.slice A2 m2 c2).ownBlock=some b)=>Own.lt Hf.o b e);obtain⟨lm2,hlm2⟩:=zE (p.t.take m2);rw[hlm2]at Hf Hb Hc;clear H2 hte hty hct hlm2 H8;obtain⟨hg,e0,e1,e2,e3,e4,e5,e6⟩:=H5.o w7 (H0.o w7 H1.o.b);go_upto_region 10 with fail
      clear hg e0 e1 e2 e3 e4 e5 e6;obtain⟨Fs,⟨F0,F1,F2,F3,F4,F5,F6,F7,F8,F9,F10,F11,F12,F13,F14,-⟩,H3⟩:=zehZ [IsF (.pointer (some ⟨gb,3,none⟩)),IsF (.slice A2 m2 c2),IsF (.slice (some ⟨g,off,none⟩) k c1),IsF (.int .i64 (m:Int)),IsF (.pointer (some ⟨g,off+m * 7,none⟩)),IsF (.pointer (some ⟨g,off+m * 7+3,none⟩)),IsF (.slice (some ⟨g2,off2,none⟩) tl ct),IsF (.int .i64 (m2:Int)),IsF (.pointer (some ⟨g2,off2+m2 * 5,none⟩)),IsF (.agg #[.int .i64 t.kind,.string ⟨t.name.toArray⟩,.slice An1 t.names.length cn1,.slice Ae1 t.embeds.length ce1,.slice Aq t.parts.length cq]),TreeF IsTy w7.heap.size t,BoxF RTy 26 5 w7.heap.size t,AppF 0,IsF (.pointer (some ⟨gb,3,none⟩)),Early fun _ _=>True] (by repeat' first | exact .nil | refine .cons (by first | exact IsF.stays | exact TreeF.stays (fun W W2 x hs h=>IsTy.sub hs _ _ h) | exact BoxF.stays RTy.sub | exact AppF.staysP | exact Early.stays fun _ _ _ _ h=>h) ?_);have He:=zh (show w7.heap[gb]? =some (.cells #[.int .i64 ps,.int .i64 kd,.string ⟨nm.toArray⟩,.slice A2 m2 c2,.slice none 0 0,vb,ve] 69 (0,0))from H1.o.box);refine zbcZ (by kernel_rfl) [12,14] (PushI RTy 26 5 M none w7 (.slice A2 m2 c2) (lm2) t gb 3) PushM Fs undef (by kernel_rfl) (by kernel_rfl) (by kernel_rfl) (by kernel_rfl) (by kernel_rfl) H3 (n:=15) (by kernel_rfl) (show Below _ _ _ from Below.drewN (yqZ _ _) 1) ?_ ?_
      ·repeat' first | refine OpsOk.cons ?_ ?_ | fail
       ·exact .pf flS (zaZ He.o) F0 (.n 5)
       ·exact .pl ldA [1] He.o F1 (.f 55 F0)
       ·exact .m F2 (.n 0)
       ·exact .m F3 (.n 4)
       ·refine OpOk.val0 [11,10,9,8,6,5,4] (by kernel_rfl) rfl rfl F4 fun ρ wq r E hbq K hK=>?_;have e157:=E.e 57 2 (by kernel_rfl) F2;have e158:=E.e 58 3 (by kernel_rfl) F3;obtain⟨hg,e0,e1,e2,e3,e4,e5,e6⟩:=H5.o wq (H0.o wq (H1.o.go hbq).b);go_simp;exact hK
       ·refine OpOk.val0 [11,10,9,8,6,5] (by kernel_rfl) rfl rfl F5 fun ρ wq r E hbq K hK=>?_;have e159:=E.e 59 4 (by kernel_rfl) F4;obtain⟨hg,e0,e1,e2,e3,e4,e5,e6⟩:=H5.o wq (H0.o wq (H1.o.go hbq).b);go_simp;exact hK
       ·refine OpOk.val0 [11,10,9,8,6] (by kernel_rfl) rfl rfl F6 fun ρ wq r E hbq K hK=>?_;have e160:=E.e 60 5 (by kernel_rfl) F5;obtain⟨hg,e0,e1,e2,e3,e4,e5,e6⟩:=H5.o wq (H0.o wq (H1.o.go hbq).b);go_simp;exact hK
       ·exact .m F7 (.n 6)
       ·refine OpOk.val0 [11,10,9,8] (by kernel_rfl) rfl rfl F8 fun ρ wq r E hbq K hK=>?_;have e161:=E.e 61 6 (by kernel_rfl) F6;have e162:=E.e 62 7 (by kernel_rfl) F7;obtain⟨hg,c0,c1,c2,c3,c4⟩:=Ho.o wq (H0.o wq (H1.o.go hbq).b);go_simp;exact hK
       ·refine OpOk.val0 [11,10,9] (by kernel_rfl) rfl rfl F9 fun ρ wq r E hbq K hK=>?_;have e163:=E.e 63 8 (by kernel_rfl) F8;obtain⟨hg,c0,c1,c2,c3,c4⟩:=Ho.o wq (H0.o wq (H1.o.go hbq).b);go_simp;exact hK
       ·exact .pc [11,10] F10 (fun W W2 x hs h=>IsTy.sub hs _ _ h) Tryz.func26 (.f 64 F9) fun w hb=>Hz.o w hb
       ·exact .pb [11] RTy.sub F11 F10 65 rdT fun ρ w K cs h1 h2 h3=>bsT rfl h1 h2 h3
       ·exact .pp RTy.sub 56 66 F12 F1 F11 Hf.o Tryz.underlying24 zlhZ H1.o.z (by have:=Hb.o;have:=Hd.o;have:=Hn.o;omega)
       ·exact .pf flS (zaZ He.o) F13 (.n 5)
       ·exact .ps (fun ho=>stTX (.inl ho)) (zaZ He.o) (fun e=>by have:=(Hi.o _ e).1;have:=H1.o.hM;omega) He.o rfl F12 F14 F13 68 67
       ·exact .nil
      ·intro uq wq rq hI hF;obtain⟨A9,c9,W9,w9,rfl,hb9,H4,H7,rfl⟩:=hI;simp only[yyZ,fillAct,Act.put,yoZ,yzZ,yAZ];clear hF He F0 F1 F2 F3 F4 F5 F6 F7 F8 F9 F10 F11 F12 F13 F14 H3;have H6:=StIn.push (j:=3) RTy.sub H1.o Hf.o hb9 H4 H7;rw[Hb.o]at H6 ⊢;obtain⟨W10,hW10⟩:=zE (w9.setCell ⟨gb,3,none⟩ (.slice A9 (m2+1) c9));rw[hW10]at H6 ⊢;rw[<-Hc.o]at H6;have J4:=zh (show StIn K M gb wo w6 (stC ps kd nm (.slice A9 (m2+1) c9) (.slice none 0 0) vb ve) W10/\_ from H6);clear hW10 H6 H4 H7 hb9;go_wp2_with fail;go_roundg (tl-(m2+1))
       case measure=>have:=Hp.o;omega
       case rel=>exact⟨m2+1,A9,c9,rfl,by simp,Hn.o,J4.o⟩
     ·have Hh:¬(m2:Int)<(tl:Int):=(by omega);obtain rfl:tl=m2:=(by omega);obtain⟨AT,rfl⟩:∃q,q=A2:=⟨A2,rfl⟩;obtain⟨cT,rfl⟩:∃q,q=c2:=⟨c2,rfl⟩;have Hl:=yjZ (show p.t.length<=tl by have:=Jd.o;omega);have Ha:=Hf.o;rw[Hl]at Ha;have Jr:=zh Ha.tys_since;have Hj:=H1;go_wp2_with fail;clear Hl Ha hg e0 e1 e2 e3 e4 e5 e6 H1 Hp;obtain⟨M2,hM2⟩:=zE (w7.heap.size);have Hu:=Hj.o.next;rw[hM2]at Hu;have U1:=zh Hu;have Jf:=zh hM2;clear Hu hM2;go_loopg [7] xl (fun i v wr=>∃(m2:Nat) (A2:Option Addr) (c2:Nat),i=xl-m2/\v=.int .i64 (m2:Nat)/\m2<=xl/\StIn K M2 gb wo w7 (stC ps kd nm (.slice AT tl cT) (.slice A2 m2 c2) vb ve) wr/\Own REx 39 7 M2 none wr (.slice A2 m2 c2) (p.x.take m2))
      case atStart=>exact⟨0,none,0,rfl,rfl,yxZ _,U1.o,Own.nil⟩
      case round=>
       obtain⟨m2,A2,c2,hi,rfl,hm2,hs,ho⟩:=hrel;obtain⟨w8,rfl⟩:∃w,w=wr:=⟨_,rfl⟩;have Hp:=zh hi;have H1:=zh hs;have Hf:=zh ho;have n0:(0:Int)<=(m2:Int):=(by omega);have n1:(m2:Int)<=1000000:=(by have:=Hd.o;omega);clear hi hs ho;obtain⟨hg,e0,e1,e2,e3,e4,e5,e6⟩:=H5.o w8 (H0.o w8 H1.o.b);by_cases hlt2:m2<xl
       ·have Hh:(m2:Int)<(xl:Int):=(by omega);have J0:IntKind.i64.wrap ((m2:Int)+1)=(m2:Int)+1:=(by rw[yQZ];omega);have H8:m2<p.x.length:=(by have:=J9.o;omega);clear hg e0 e1 e2 e3 e4 e5 e6;obtain⟨g2,off2,Atp,ctp,Anp,cnp,App,cpp,rfl,hty,hct⟩:=HX.o.spot m2 H8;rw[HL.o]at hct;have Hc:=zh (ykZ H8);have Hb:=zh (show(p.x.take m2).length=m2 by rw[yUZ];omega);have H2:=yfZ H8;obtain⟨t,hte⟩:=zE (p.x[m2]'H8);rw[hte]at hct hty H2 Hc;have Hy:=zh (show Sx.sizeX t<=1000000 by have:=Sx.sizeX_mem H2;have:=Hd.o;omega);have Hz:=zh (fun X (hX:Below w8.heap.size w8 X)=>zmiZ 1000000 t Hy.o (ybZ _) _ X (IsEx.below (by rw[HL.o];exact H0.o X (H1.o.go hX).b) _ _ hty));have Ho:=zh hct;have Hn:=zh hlt2;have Hi:=zh (fun b (e:(Value.slice A2 m2 c2).ownBlock=some b)=>Own.lt Hf.o b e);obtain⟨lm2,hlm2⟩:=zE (p.x.take m2);rw[hlm2]at Hf Hb Hc;clear H2 hte hty hct hlm2 H8;obtain⟨hg,e0,e1,e2,e3,e4,e5,e6⟩:=H5.o w8 (H0.o w8 H1.o.b);go_upto_region 14 with fail
        clear hg e0 e1 e2 e3 e4 e5 e6;obtain⟨Fs,⟨F0,F1,F2,F3,F4,F5,F6,F7,F8,F9,F10,F11,F12,F13,F14,-⟩,H3⟩:=zehZ [IsF (.pointer (some ⟨gb,4,none⟩)),IsF (.slice A2 m2 c2),IsF (.slice (some ⟨g,off,none⟩) k c1),IsF (.int .i64 (m:Int)),IsF (.pointer (some ⟨g,off+m * 7,none⟩)),IsF (.pointer (some ⟨g,off+m * 7+4,none⟩)),IsF (.slice (some ⟨g2,off2,none⟩) xl cx),IsF (.int .i64 (m2:Int)),IsF (.pointer (some ⟨g2,off2+m2 * 7,none⟩)),IsF (.agg #[.int .i64 t.pos,.int .i64 t.kind,.int .i64 t.n,.string ⟨t.s.toArray⟩,.slice Atp t.t.length ctp,.slice Anp t.names.length cnp,.slice App t.parts.length cpp]),TreeF IsEx w8.heap.size t,BoxF REx 39 7 w8.heap.size t,AppF 0,IsF (.pointer (some ⟨gb,4,none⟩)),Early fun _ _=>True] (by repeat' first | exact .nil | refine .cons (by first | exact IsF.stays | exact TreeF.stays (fun W W2 x hs h=>IsEx.sub hs _ _ h) | exact BoxF.stays REx.sub | exact AppF.staysP | exact Early.stays fun _ _ _ _ h=>h) ?_);have He:=zh (show w8.heap[gb]? =some (.cells #[.int .i64 ps,.int .i64 kd,.string ⟨nm.toArray⟩,.slice AT tl cT,.slice A2 m2 c2,vb,ve] 69 (0,0))from H1.o.box);refine zbcZ (by kernel_rfl) [12,14] (PushI REx 39 7 M2 none w8 (.slice A2 m2 c2) (lm2) t gb 4) PushM Fs undef (by kernel_rfl) (by kernel_rfl) (by kernel_rfl) (by kernel_rfl) (by kernel_rfl) H3 (n:=15) (by kernel_rfl) (show Below _ _ _ from Below.drewN (yqZ _ _) 1) ?_ ?_
        ·repeat' first | refine OpsOk.cons ?_ ?_ | fail
         ·exact .pf flS (zaZ He.o) F0 (.n 5)
         ·exact .pl ldA [1] He.o F1 (.f 79 F0)
         ·exact .m F2 (.n 0)
         ·exact .m F3 (.n 4)
         ·refine OpOk.val0 [11,10,9,8,6,5,4] (by kernel_rfl) rfl rfl F4 fun ρ wq r E hbq K hK=>?_;have e181:=E.e 81 2 (by kernel_rfl) F2;have e182:=E.e 82 3 (by kernel_rfl) F3;obtain⟨hg,e0,e1,e2,e3,e4,e5,e6⟩:=H5.o wq (H0.o wq (H1.o.go hbq).b);go_simp;exact hK
         ·refine OpOk.val0 [11,10,9,8,6,5] (by kernel_rfl) rfl rfl F5 fun ρ wq r E hbq K hK=>?_;have e183:=E.e 83 4 (by kernel_rfl) F4;obtain⟨hg,e0,e1,e2,e3,e4,e5,e6⟩:=H5.o wq (H0.o wq (H1.o.go hbq).b);go_simp;exact hK
         ·refine OpOk.val0 [11,10,9,8,6] (by kernel_rfl) rfl rfl F6 fun ρ wq r E hbq K hK=>?_;have e184:=E.e 84 5 (by kernel_rfl) F5;obtain⟨hg,e0,e1,e2,e3,e4,e5,e6⟩:=H5.o wq (H0.o wq (H1.o.go hbq).b);go_simp;exact hK
         ·exact .m F7 (.n 7)
         ·refine OpOk.val0 [11,10,9,8] (by kernel_rfl) rfl rfl F8 fun ρ wq r E hbq K hK=>?_;have e185:=E.e 85 6 (by kernel_rfl) F6;have e186:=E.e 86 7 (by kernel_rfl) F7;obtain⟨hg,c0,c1,c2,c3,c4,c5,c6⟩:=Ho.o wq (H0.o wq (H1.o.go hbq).b);go_simp;exact hK
         ·refine OpOk.val0 [11,10,9] (by kernel_rfl) rfl rfl F9 fun ρ wq r E hbq K hK=>?_;have e187:=E.e 87 8 (by kernel_rfl) F8;obtain⟨hg,c0,c1,c2,c3,c4,c5,c6⟩:=Ho.o wq (H0.o wq (H1.o.go hbq).b);go_simp;exact hK
         ·exact .pc [11,10] F10 (fun W W2 x hs h=>IsEx.sub hs _ _ h) Tryz.func32 (.f 88 F9) fun w hb=>Hz.o w hb
         ·exact .pb [11] REx.sub F11 F10 89 rdE fun ρ w K cs h1 h2 h3=>bsE rfl h1 h2 h3
         ·exact .pp REx.sub 80 90 F12 F1 F11 Hf.o Tryz.underlying37 zrkZ H1.o.z (by have:=Hb.o;have:=Hd.o;have:=Hn.o;omega)
         ·exact .pf flS (zaZ He.o) F13 (.n 5)
         ·exact .ps (fun ho=>stTX (.inr ho)) (zaZ He.o) (fun e=>by have:=(Hi.o _ e).1;have:=H1.o.hM;omega) He.o rfl F12 F14 F13 92 91
         ·exact .nil
        ·intro uq wq rq hI hF;obtain⟨A9,c9,W9,w9,rfl,hb9,H4,H7,rfl⟩:=hI;simp only[yyZ,fillAct,Act.put,yoZ,yzZ,yAZ];clear hF He F0 F1 F2 F3 F4 F5 F6 F7 F8 F9 F10 F11 F12 F13 F14 H3;have H6:=StIn.push (j:=4) REx.sub H1.o Hf.o hb9 H4 H7;rw[Hb.o]at H6 ⊢;obtain⟨W10,hW10⟩:=zE (w9.setCell ⟨gb,4,none⟩ (.slice A9 (m2+1) c9));rw[hW10]at H6 ⊢;rw[<-Hc.o]at H6;have J4:=zh (show StIn K M2 gb wo w7 (stC ps kd nm (.slice AT tl cT) (.slice A9 (m2+1) c9) vb ve) W10/\_ from H6);clear hW10 H6 H4 H7 hb9;go_wp2_with fail;go_roundg (xl-(m2+1))
         case measure=>have:=Hp.o;omega
         case rel=>exact⟨m2+1,A9,c9,rfl,by simp,Hn.o,J4.o⟩
       ·have Hh:¬(m2:Int)<(xl:Int):=(by omega);obtain rfl:xl=m2:=(by omega);have Hl:=yjZ (show p.x.length<=xl by have:=J9.o;omega);have Ha:=Hf.o;rw[Hl]at Ha;have J5:=H1.o.b;have hq:∀gg,K<=gg->gg≠gb->gg<M->w8.heap[gg]? =w6.heap[gg]? :=fun gg h1 h2 h3=>(by have:=Hj.o.z;have:=Jf.o;exact(H1.o.q gg h1 h2 (by omega)).trans (Hj.o.q gg h1 h2 h3));have Hs:IsSt (only w8 (since K)) (.agg (stC ps kd nm (.slice AT tl cT) (.slice A2 xl c2) vb ve)) p:=by
         rw[Jk.o];have hKM:K<=M:=(by have:=Hj.o.hK;have:=Hj.o.hM;omega);have hKM2:K<=M2:=(by have:=H1.o.hK;have:=H1.o.hM;omega);refine IsSt.made (Jr.o.sub (znZ fun gg hg hs=>?_)) (Ha.exs_since.sub (znZ fun gg hg hs=>?_)) (Hg.o.1.wide fun gg h1 h2 h3=>hq gg h1 h2 (by rw[<-HM.o];exact h3)) (Hg.o.2.wide fun gg h1 h2 h3=>hq gg h1 h2 (by rw[<-HM.o];exact h3))
         ·have h1:=zmZ.1 hs;have:=Hj.o.hM;exact⟨zmZ.2 (by omega),H1.o.q gg (by omega) (by omega) (by rw[<-Jf.o];exact hg)⟩
         ·have h1:=zmZ.1 hs;exact⟨zmZ.2 (by omega),rfl⟩
        have Jv:=zh Hs;obtain⟨x0,x1,x2,x3,x4,x5,x6⟩:=zbZ (show w8.heap[gb]? =some (.cells #[.int .i64 ps,.int .i64 kd,.string ⟨nm.toArray⟩,.slice AT tl cT,.slice A2 xl c2,vb,ve] 69 (0,0))from H1.o.box);have U5:=zaZ H1.o.box;have Ji:=zh (HO.o.go RSt.sub (by rw[J3.o];exact J5));have Jj:=zh (show vb.oneCell'=true/\ve.oneCell'=true from⟨by obtain⟨_,_,e,-⟩:=id Hg.o.1;rw[e];rfl,by obtain⟨_,_,e,-⟩:=id Hg.o.2;rw[e];rfl⟩);clear Hl Ha Hs hq;have Jl:=zh J5;clear J5;have Hi:=zh (fun b (e:(Value.slice A m c).ownBlock=some b)=>Own.lt HO.o b e);obtain⟨wa,Hq⟩:=zE (w8.alloc (.cells #[.int .i64 ps,.int .i64 kd,.string ⟨nm.toArray⟩,.slice AT tl cT,.slice A2 xl c2,vb,ve] 69));obtain⟨Na,hNa⟩:=zE (w8.heap.size);have Hr:Below w8.heap.size w8 wa:=(by rw[<-Hq];exact(yqZ _ _).alloc (ybZ _) _);have Jm:=zh (show wa.heap[Na]? =some (.cells #[.int .i64 ps,.int .i64 kd,.string ⟨nm.toArray⟩,.slice AT tl cT,.slice A2 xl c2,vb,ve] 69 (0,0))by rw[<-Hq,<-hNa];exact ydZ w8 _);have Hx:=zh (show Below K wo wa from Jl.o.trans (Hr.mono H1.o.kz));have U2:=zh (Ji.o.go RSt.sub Hr);have Ju:=zh (IsSt.sub (Sub.since_below (B:=K) Hr) _ _ Jv.o);have Jb:=zh (And.intro Hq hNa);clear Hq hNa Hr;go_wp2_with (at_builtin;rw[Jb.o.1,Jb.o.2];refine zmoZ RSt.sub rfl _ _ 60 rfl U2.o Ja.o Tryz.underlying60 zyeZ rfl (by decide) rfl rfl rfl Jm.o rfl (by simp[Value.oneCell'];exact Jj.o) ⟨_,_,_,_,_,_,_,rfl,Ju.o⟩ J7.o (by have:=Hx.o.size;rw[J3.o]at this;exact this) (fun b e=>nomatch e) (fun b e=>by rw[<-J3.o];exact(Hi.o b e).2) (by have:=Jo.o;omega) (by omega) ?_;intro A9 c9 w9 H4 H7);have U0:=zh H4;have Js:=zh (Below.grow (H0.o wa Hx.o) (by have:=(H0.o wa Hx.o).size;rw[HL.o]at this;exact this) H7 fun r e=>(Hi.o r e).1);clear H4 H7;go_wp2_with fail;go_roundg (k-(m+1))
        case measure=>have:=HI.o;omega
        case rel=>exact⟨m+1,A9,c9,rfl,rfl,by simp,hlt,by rw[J1.o];exact U0.o,Js.o⟩
  ·have Jh:¬(m:Int)<(k:Int):=(by omega);have Hm:l.take m=l:=yjZ (by have:=HK.o;omega);obtain rfl:m=l.length:=(by have:=HK.o;omega);rw[Hm]at HO;go_wp2_with fail;go_ret;rw[HL.o];exact⟨_,rfl,HO.o.sts_since,Hw.o⟩
theorem zguZ:∀(n:Nat) (l:List Sx.St),Sx.sizeSs l<n->Sx.sizeSs l<=1000000->OwnSsOk l
 | 0,l,h,_=>by omega
 | n+1,l,h,h1=>zpaZ l h1 fun s hs=>by have:=Sx.sizeS_mem hs;have:=Sx.sizeS_parts s;exact⟨zguZ n s.body (by omega) (by omega),zguZ n s.els (by omega) (by omega)⟩
end Go.Proofs.YtdncljdfmdgdaaaGreatDoor
namespace Go.Proofs.YtdncljdfmdgdaaaGreatDoor
open Go.RowKit Go.Shelf
theorem zrnZ:∀(n:Nat) (t:Sx.Ex),Sx.sizeX t<=n->Sx.fitsX t->∀(most:Nat) (v:Value) (W:World),1<=most->most<=1000000->IsEx W v t->
  Calls Tryz.prog 31 #[v,.int .i64 (most:Nat)] W (SizeIs most (Sx.sizeX t) W):=by
 intro n
 induction n with
 | zero=>intro t h;have:=Sx.sizeX_pos t;omega
 | succ n ih=>
  intro t hn hf most v W J9 J8 ht;obtain⟨f1,f2,f3,f4,f5,f6,f7⟩:=Sx.fitsX_parts hf;obtain⟨At,ct,An,cn,Ap,cp,rfl,htt,hnm,hp,-⟩:=ht.agg;have Hn:=Sx.sizeX_parts t;obtain⟨nl,hnl⟩:=zE (t.names.length);obtain⟨tl,htl⟩:=zE (t.t.length);obtain⟨k,hk⟩:=zE (t.parts.length);obtain⟨ll,hll⟩:=zE (t.s.length);rw[hnl,hll]at Hn;rw[hnl]at f2 hnm;rw[htl]at f4 htt;rw[hk]at f6 hp;rw[hll]at f1;rw[hnl,htl,hk];have i1a:(0:Int)<=(ll:Int):=(by omega);have i1b:(ll:Int)<=140737488351232:=(by omega);have i2a:(0:Int)<=(nl:Int):=(by omega);have i2b:(nl:Int)<=140737488351232:=(by omega);have i3a:(0:Int)<=(tl:Int):=(by omega);have i3b:(tl:Int)<=140737488351232:=(by omega);have i4a:(0:Int)<=(k:Int):=(by omega);have i4b:(k:Int)<=140737488351232:=(by omega);have i5a:(1:Int)<=(most:Int):=(by omega);have i5b:(most:Int)<=1000000:=(by omega);have Hw:(⟨t.s.toArray⟩:ByteArray).size=ll:=(by simp[ByteArray.size,hll]);have Hx:=zh ih;have Ht:=zh Hn;have HN:=zh hn;have J3:=zh hnm;have HP:=zh hp;have J0:=zh htt;have J1:=zh f3;have J7:=zh f5;have J2:=zh f7;have Hr:=zh hnl;have Hs:=zh htl;have HK:=zh hk;obtain⟨L,hL⟩:=zE (W.heap.size);obtain⟨w2,hw2⟩:=zE (W.alloc (.cells #[.int .i64 t.pos,.int .i64 t.kind,.int .i64 t.n,.string ⟨t.s.toArray⟩,.slice At tl ct,.slice An nl cn,.slice Ap k cp] 39));have H4:w2.heap[L]? =some (.cells #[.int .i64 t.pos,.int .i64 t.kind,.int .i64 t.n,.string ⟨t.s.toArray⟩,.slice At tl ct,.slice An nl cn,.slice Ap k cp] 39 (0,0)):=(by rw[<-hw2,<-hL];exact ydZ W _);have Hv:Below L W w2:=(by rw[<-hw2,<-hL];exact zeZ (yeZ W _ none));obtain⟨x0,x1,x2,x3,x4,x5,x6⟩:=zbZ H4;have Jb:=zaZ H4;have H5:=zh H4;have Hl:=zh Hv;have HL:=zh hL;clear ih Hn hn hnm htt hp f3 f5 f7 hnl htl hk hll ht hf H4 Hv;go_enter Tryz.func31, Tryz.ntmps31
  go_upto_block 0 with(fail)
  obtain⟨bs,hbs⟩:∃b:Int,1+(ll:Int)+(nl:Int)=b:=⟨_,rfl⟩;have J6:=zh hbs;rw[hbs];clear hbs
  go_cut [5] (fun v wx=>wx=w2/\∃r:Nat,v=.int .i64 (r:Nat)/\r<=most+500000000000000/\(r<most->r=1+ll+nl+(t.names.map List.length).sum))
  case first=>
   go_wp2_with fail
   go_loopg [5,6] nl (fun i v u wr=>∃(m r:Nat),i=nl-m/\v=.int .i64 (r:Nat)/\u=.int .i64 (m:Nat)/\m<=nl/\r<=most+500000000000000/\(r<most->r=1+ll+nl+((t.names.take m).map List.length).sum)/\wr=w2)
   case atStart=>exact⟨0,1+ll+nl,rfl,by have:=J6.o;congr 1;omega,rfl,yxZ _,by omega,by simp,rfl⟩
   case round=>
    obtain⟨m,r,hi,rfl,rfl,hm,hr1,hr2,rfl⟩:=hrel;have HI:=zh hi;have H8:=zh hr2;have m0:(0:Int)<=(m:Int):=(by omega);have r0:(0:Int)<=(r:Int):=(by omega);have r1:(r:Int)<=500000001000000:=(by omega);clear hi hr2;by_cases hlt:m<nl
    ·have Ha:(m:Int)<(nl:Int):=(by omega);by_cases hrm:r<most
     ·have Hd:(r:Int)<(most:Int):=(by omega);have Hk:m<t.names.length:=(by have:=Hr.o;omega);obtain⟨g1,off1,rfl,hsp1⟩:=J3.o.spot m Hk;obtain⟨hg1,q1⟩:=hsp1 wr (by rw[HL.o];exact Hl.o);have H1:=Sx.sum_take Hk;have Hu:=J1.o _ (yfZ Hk);obtain⟨s,hse⟩:=zE (t.names[m]'Hk);rw[hse]at q1 H1 Hu;obtain⟨sl,hsl⟩:=zE (s.length);have Ja:(⟨s.toArray⟩:ByteArray).size=sl:=(by simp[ByteArray.size,hsl]);rw[hsl]at H1 Hu;have s0:(0:Int)<=(sl:Int):=(by omega);have s1:(sl:Int)<=140737488351232:=(by omega);have H9:=zh H1;have J4:=zh (H8.o hrm);clear H1 hse hsl hsp1;go_wp2_with fail;go_roundg (nl-(m+1))
      case measure=>have:=HI.o;omega
      case rel=>exact⟨m+1,r+sl,rfl,by simp,by simp,hlt,by omega,fun _=>by rw[H9.o,J4.o];omega,rfl⟩
     ·have Hd:decide ((r:Int)<(most:Int))=false:=(by rw[yvZ];omega);have He:¬(r:Int)<(most:Int):=(by omega);go_wp2_with fail
      go_meet
      exact⟨rfl,r,rfl,hr1,fun h=>absurd h hrm⟩
    ·have Ha:decide ((m:Int)<(nl:Int))=false:=(by rw[yvZ];omega);have Hj:¬(m:Int)<(nl:Int):=(by omega);have H0:=yjZ (show t.names.length<=m by have:=Hr.o;omega);have Hh:=zh H0;clear H0;go_wp2_with fail
     go_meet
     exact⟨rfl,r,rfl,hr1,fun h=>by rw[H8.o h,Hh.o]⟩
  case rest=>
   obtain⟨rfl,r,rfl,hr1,hr2⟩:=hcut;have H8:=zh hr2;have r0:(0:Int)<=(r:Int):=(by omega);have r1:(r:Int)<=500000001000000:=(by omega);clear hr2
   go_upto_block 2 with(fail)
   go_cut [5] (fun v wx=>∃r:Nat,v=.int .i64 (r:Nat)/\r<=most+500000000000000/\(r<most->r=1+ll+nl+(t.names.map List.length).sum+Sx.sizeL t.t)/\Below L W wx/\wx.heap[L]? =wc.heap[L]?)
   case first=>
    go_wp2_with fail
    clear x0 x1 x2 x3 x4 x5 x6;go_loopg [5,7] tl (fun i v u wr=>∃(m r:Nat),i=tl-m/\v=.int .i64 (r:Nat)/\u=.int .i64 (m:Nat)/\m<=tl/\r<=most+500000000000000/\(r<most->r=1+ll+nl+(t.names.map List.length).sum+Sx.sizeL (t.t.take m))/\Below L W wr/\wr.heap[L]? =wc.heap[L]?)
    case atStart=>exact⟨0,r,rfl,rfl,rfl,yxZ _,hr1,by have:=H8.o;simpa[Sx.sizeL]using this,Hl.o,rfl⟩
    case round=>
     obtain⟨m,q,hi,rfl,rfl,hm,hq1,hq2,hwr,hbr⟩:=hrel;rw[H5.o]at hbr;obtain⟨x0,x1,x2,x3,x4,x5,x6⟩:=zbZ hbr;have Ho:=zaZ hbr;have hLs:L<=wr.heap.size:=(by omega);have HI:=zh hi;have Hc:=zh hq2;have H2:=zh hwr;have Hf:=zh hbr;have m0:(0:Int)<=(m:Int):=(by omega);have q0:(0:Int)<=(q:Int):=(by omega);have q1:(q:Int)<=500000001000000:=(by omega);clear hi hq2 hwr hbr;by_cases hlt:m<tl
     ·have Ha:(m:Int)<(tl:Int):=(by omega);by_cases hrm:q<most
      ·have Hd:(q:Int)<(most:Int):=(by omega);have H3:m<t.t.length:=(by have:=Hs.o;omega);obtain⟨g,off,An1,cn1,Ae1,ce1,Aq,cq,rfl,hty,hc5⟩:=J0.o.spot m H3;rw[HL.o]at hc5;obtain⟨hg,c0,c1,c2,c3,c4⟩:=hc5 wr H2.o;have H1:=Sx.size_take H3;have H7:=J7.o _ (yfZ H3);have Hb:=Sx.size_mem (yfZ H3);obtain⟨p,hpe⟩:=zE (t.t[m]'H3);rw[hpe]at c0 c1 c2 c3 c4 hty H1 H7 Hb;obtain⟨d,hd⟩:∃d:Int,(most:Int)-(q:Int)=d:=⟨_,rfl⟩;have d0:1<=d:=(by omega);have d1:d<=1000000:=(by omega);have H6:=zljZ _ p (ybZ _) H7 (most-q) _ wr (by omega) (by omega) (IsTy.below (by rw[HL.o];exact H2.o) _ _ hty);rw[show((most-q:Nat):Int)=d by omega]at H6;have Hq:=zh H6;have H9:=zh H1;have Hp:=zh (Hc.o hrm);clear H6 H1 H7 Hb hpe hty hc5;go_wp2_with fail;refine Hq.o.mono ?_;rintro e w5 ⟨z,rfl,Hy,Hi,Hg⟩;have z0:(0:Int)<=(z:Int):=(by omega);have Hz:z+q<=most+500000000000000:=(by omega);have z1:(z:Int)<=500000001000000:=(by omega);have z2:(q:Int)+(z:Int)<=500000001000000:=(by omega);have Hm:=zh Hi;clear Hi;go_wp2_with fail;go_roundg (tl-(m+1))
       case measure=>have:=HI.o;omega
       case rel=>
        refine⟨m+1,q+z,rfl,by simp,by simp,hlt,by omega,fun hlz=>?_,H2.o.trans (Hg.mono hLs),?_⟩
        ·rw[H9.o,Hm.o (by omega),Hp.o];omega
        ·rw[H5.o,Hg.block L Ho,Hf.o]
      ·have Hd:decide ((q:Int)<(most:Int))=false:=(by rw[yvZ];omega);have He:¬(q:Int)<(most:Int):=(by omega);go_wp2_with fail
       go_meet
       exact⟨q,rfl,hq1,fun h=>absurd h hrm,H2.o,by rw[H5.o,Hf.o]⟩
     ·have Ha:decide ((m:Int)<(tl:Int))=false:=(by rw[yvZ];omega);have Hj:¬(m:Int)<(tl:Int):=(by omega);have H0:=yjZ (show t.t.length<=m by have:=Hs.o;omega);have Hh:=zh H0;clear H0;go_wp2_with fail
      go_meet
      exact⟨q,rfl,hq1,fun h=>by rw[Hc.o h,Hh.o],H2.o,by rw[H5.o,Hf.o]⟩
   case rest=>
    rename_i wd;obtain⟨r,rfl,hr1,hr2,hwr,hbr⟩:=hcut;rw[H5.o]at hbr;have H8:=zh hr2;have r0:(0:Int)<=(r:Int):=(by omega);have r1:(r:Int)<=500000001000000:=(by omega);have H5:=zh hbr;have Hl:=zh hwr;clear hr2 x0 x1 x2 x3 x4 x5 x6;go_wp2_with fail;go_loopg [5,8] k (fun i v u wr=>∃(m r:Nat),i=k-m/\v=.int .i64 (r:Nat)/\u=.int .i64 (m:Nat)/\m<=k/\r<=most+500000000000000/\(r<most->r=1+ll+nl+(t.names.map List.length).sum+Sx.sizeL t.t+Sx.sizeXs (t.parts.take m))/\Below L W wr/\wr.heap[L]? =wc.heap[L]?)
    case atStart=>exact⟨0,r,rfl,rfl,rfl,yxZ _,hr1,by have:=H8.o;simpa[Sx.sizeXs]using this,Hl.o,rfl⟩
    case round=>
     obtain⟨m,q,hi,rfl,rfl,hm,hq1,hq2,hwr,hbr⟩:=hrel;rw[H5.o]at hbr;obtain⟨x0,x1,x2,x3,x4,x5,x6⟩:=zbZ hbr;have Ho:=zaZ hbr;have hLs:L<=wr.heap.size:=(by omega);have HI:=zh hi;have Hc:=zh hq2;have H2:=zh hwr;have Hf:=zh hbr;have m0:(0:Int)<=(m:Int):=(by omega);have q0:(0:Int)<=(q:Int):=(by omega);have q1:(q:Int)<=500000001000000:=(by omega);clear hi hq2 hwr hbr;by_cases hlt:m<k
     ·have Ha:(m:Int)<(k:Int):=(by omega);by_cases hrm:q<most
      ·have Hd:(q:Int)<(most:Int):=(by omega);have H3:m<t.parts.length:=(by have:=HK.o;omega);obtain⟨g,off,A9,c9,A8,c8,Aq,cq,rfl,hty,hc5⟩:=HP.o.spot m H3;rw[HL.o]at hc5;obtain⟨hg,c0,c1,c2,c3,c4,c5,c6⟩:=hc5 wr H2.o;have H1:=Sx.sizeX_take H3;have H7:=J2.o _ (yfZ H3);have Hb:=Sx.sizeX_mem (yfZ H3);obtain⟨p,hpe⟩:=zE (t.parts[m]'H3);rw[hpe]at c0 c1 c2 c3 c4 c5 c6 hty H1 H7 Hb;obtain⟨d,hd⟩:∃d:Int,(most:Int)-(q:Int)=d:=⟨_,rfl⟩;have d0:1<=d:=(by omega);have d1:d<=1000000:=(by omega);have H6:=Hx.o p (by have:=HN.o;have:=Ht.o;omega) H7 (most-q) _ wr (by omega) (by omega) (IsEx.below (by rw[HL.o];exact H2.o) _ _ hty);rw[show((most-q:Nat):Int)=d by omega]at H6;have Hq:=zh H6;have H9:=zh H1;have Hp:=zh (Hc.o hrm);clear H6 H1 H7 Hb hpe hty hc5;go_wp2_with fail;refine Hq.o.mono ?_;rintro e w5 ⟨z,rfl,Hy,Hi,Hg⟩;have z0:(0:Int)<=(z:Int):=(by omega);have Hz:z+q<=most+500000000000000:=(by omega);have z1:(z:Int)<=500000001000000:=(by omega);have z2:(q:Int)+(z:Int)<=500000001000000:=(by omega);have Hm:=zh Hi;clear Hi;go_wp2_with fail;go_roundg (k-(m+1))
       case measure=>have:=HI.o;omega
       case rel=>
        refine⟨m+1,q+z,rfl,by simp,by simp,hlt,by omega,fun hlz=>?_,H2.o.trans (Hg.mono hLs),?_⟩
        ·rw[H9.o,Hm.o (by omega),Hp.o];omega
        ·rw[H5.o,Hg.block L Ho,Hf.o]
      ·have Hd:decide ((q:Int)<(most:Int))=false:=(by rw[yvZ];omega);have He:¬(q:Int)<(most:Int):=(by omega);go_wp2_with fail;go_ret;exact⟨q,rfl,hq1,fun h=>absurd h hrm,by rw[HL.o];exact H2.o⟩
     ·have Ha:decide ((m:Int)<(k:Int))=false:=(by rw[yvZ];omega);have Hj:¬(m:Int)<(k:Int):=(by omega);have H0:=yjZ (show t.parts.length<=m by have:=HK.o;omega);have Hh:=zh H0;clear H0;go_wp2_with fail;go_ret;refine⟨q,rfl,hq1,fun h=>?_,by rw[HL.o];exact H2.o⟩;have:=Hc.o h;rw[Hh.o]at this;rw[this,Ht.o]
end Go.Proofs.YtdncljdfmdgdaaaGreatDoor
