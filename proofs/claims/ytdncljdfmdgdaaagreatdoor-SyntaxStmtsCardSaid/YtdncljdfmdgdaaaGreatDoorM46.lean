/-
  Plain laws: the tokens of right statements are short.
-/
import Derived.Test.YtdncljdfmdgdaaaGreatDoorM45
set_option linter.unusedSimpArgs false
set_option linter.unusedVariables false
set_option maxRecDepth 100000
set_option maxHeartbeats 16000000
namespace Go.Proofs.YtdncljdfmdgdaaaGreatDoor
open Go.Proofs.YtdncljdfmdgdaaaGreatDoor.Lx (Bytes)
namespace Sx
theorem zpcZ {s:St} (h:numS s):numXs s.x/\numSs s.body/\numSs s.els:=by cases s;rw[numS]at h;exact h
theorem zjlZ:∀ {l:List St},(∀s∈l,Lks (stmt SY s))->Lks (stmts SY l)
 | [],h=>by rw[stmts];exact Lks.nil
 | s::l,h=>by rw[stmts];exact(h s ysZ).app (zjlZ fun u hu=>h u (ywZ _ hu))
theorem zfmZ {l:List St} (h:∀s∈l,Lks (stmt SY s)):Lks (braced l):=by
 unfold braced;exact((Lks.cons zipZ Lks.nil).app (zjlZ h)).app (Lks.cons ziqZ Lks.nil)
theorem zufZ:∀(n:Nat) (s:St),sizeS s<=n->sizeS s<=20000->okS s->numS s->Lks (stmt SY s):=by
 intro n
 induction n with
 | zero=>intro s h;have:=sizeS_pos s;omega
 | succ n ih=>
  intro s hn hz H1 H0;obtain⟨gk,gx,gn,gt,gb,ge,gbs,ges⟩:=H1.good;obtain⟨n1,n2,n3⟩:=zpcZ H0;have hs:=sizeS_parts s;have hb:∀u∈s.body,Lks (stmt SY u):=fun u hu=>ih u (by have:=sizeS_mem hu;omega) (by have:=sizeS_mem hu;omega) (gbs u hu) (numSs_mem n2 u hu);have he:∀u∈s.els,Lks (stmt SY u):=fun u hu=>ih u (by have:=sizeS_mem hu;omega) (by have:=sizeS_mem hu;omega) (ges u hu) (numSs_mem n3 u hu);have h0:0<s.x.length:=(by omega);have hm:=yfZ h0;have hx:Lks (expr SY (s.x[0]'h0)):=zyfZ (by have:=sizeX_mem hm;omega) ⟨64,gx.2 h0⟩ (numXs_mem n1 _ hm);rw[stmt_eq s h0];refine((Lks.ite (fun e=>?_) fun e1=>Lks.ite (fun e=>?_) fun e2=>Lks.ite (fun _=>Lks.cons zvuZ Lks.nil) fun e3=>Lks.ite (fun _=>Lks.cons lkIf Lks.nil) fun e4=>Lks.ite (fun _=>Lks.cons zvvZ Lks.nil) fun e5=>Lks.ite (fun _=>Lks.cons ztlZ Lks.nil) fun _=>Lks.nil).app hx).app
   (Lks.ite (fun _=>Lks.cons zlxZ Lks.nil) fun _=>Lks.ite (fun _=>zfmZ hb) fun _=>((zfmZ hb).app (Lks.cons zxjZ Lks.nil)).app (zfmZ he))
  ·refine((Lks.cons lkLet (Lks.cons (zcdZ (gn (.inl e))) Lks.nil)).app ?_).app (Lks.cons lkIs Lks.nil);rcases gt with h | ⟨-,h,hr⟩
   ·rw[yabZ.1 h,typL];exact Lks.nil
   ·rcases ht:s.t with _ | ⟨t,_ | ⟨t2,l⟩⟩
    ·rw[typL];exact Lks.nil
    ·rw[ht]at hr;rw[typL];exact znoZ (d:=64) (by simpa[right0]using hr)
    ·rw[ht]at h;simp at h
  ·exact Lks.cons (zcdZ (gn (.inr e))) (Lks.cons lkIs Lks.nil)
theorem lks_stmts {l:List St} (hz:sizeSs l<=20000) (h:rightSs NM 64 l=true) (hn:numSs l):Lks (stmts SY l):=
 zjlZ fun s hs=>zufZ _ s (ybZ _) (by have:=sizeS_mem hs;omega) ⟨64,rightSs_mem h s hs⟩ (numSs_mem hn s hs)
end Sx
end Go.Proofs.YtdncljdfmdgdaaaGreatDoor
namespace Go.Proofs.YtdncljdfmdgdaaaGreatDoor
open Go.RowKit Go.Shelf Go.WideMaps
theorem Sx.okS_mem {d:Nat} {l:List Sx.St} (h:Sx.rightSs NM d l=true):∀s∈l,Sx.okS s:=fun s hs=>⟨d,Sx.rightSs_mem h s hs⟩
theorem zkcZ (l:List Sx.St) (v:Value) (W:World) (hG:GS W) (hN:NG<=W.heap.size) (ht:StRow W v l) (hsz:Sx.sizeSs l<=1000000) (hlen:(Sx.stmts SY l).length<=900000000) :
  Calls Tryz.prog 24 #[v] W fun e W'=>e=.returned (.tuple #[.string ⟨(Sx.said (Sx.rightSs NM 64 l) (Sx.stmts SY l)).1.toArray⟩,.int .i64 ((Sx.said (Sx.rightSs NM 64 l) (Sx.stmts SY l)).2:Nat)])/\Below W.heap.size W W':=by
 have Ha:∀X,Below W.heap.size W X->Calls Tryz.prog 65 #[v,.int .i64 64] X fun e W'=>e=.returned (.bool (Sx.rightSs NM 64 l))/\Below X.heap.size X W':=fun X hb=>zkoZ 64 (by omega) l v X (hG.below hb) (ymZ hN hb.size) (ht.below hb) hsz;have H2:=fun b w (hr:Sx.rightSs NM 64 l=true) (h:Wrote W b 0 [] w)=>zmxZ (b:=b) hG hN _ l (ybZ _) v [] w (Sx.okS_mem hr) ht hsz h (by simpa using hlen);obtain⟨A,c,rfl,-,-⟩:=ht;obtain⟨L,hL⟩:=zE (W.heap.size);obtain⟨w3,hw3⟩:=zE (W.alloc (.cells #[.pointer none,.slice none 0 0,.int .i64 0] 104));have H0:w3.heap[L]? =some (.cells #[.pointer none,.slice none 0 0,.int .i64 0] 104 (0,0)):=by rw[<-hw3,<-hL];exact ydZ W _
 have H3:Below W.heap.size W w3:=by rw[<-hw3];exact zeZ (yeZ W _ none)
 have H7:L<w3.heap.size:=zaZ H0
 have H9:=zh (show ∀w4,Below w3.heap.size w3 w4->Wrote W L 0 [] w4/\L<w4.heap.size from fun w4 H1=>
  ⟨Wrote.fresh (by omega) ((H1.block L H7).trans H0) (H3.trans (H1.mono H3.size)),yJZ H7 H1.size⟩)
 have H4:=zh (Ha w3 H3);have H5:=zh H2;have Hb:=zh hlen;clear Ha H2 hlen H3 H0 hG hsz
 cases hr:Sx.rightSs NM 64 l with
 | false=>
  rw[hr]at H4;have HR:=zh hr;clear hr;go_enter Tryz.func24, Tryz.ntmps24
  go_wp2_with (first
   | (go_at_call 65;refine H4.o.mono ?_;rintro e w4 ⟨rfl,H1⟩;obtain⟨hW,hl4⟩:=H9.o w4 H1;have hW4:=zh hW;clear H1 hW)
   | (go_at_call 60;refine(zdtZ hW4.o (by omega) false (fun _=>rfl)).mono ?_;rintro e w5 ⟨rfl,H8⟩))
  refine ylZ (yDZ rfl _ _ _) rfl ?_;exact⟨rfl,by first | exact H8 | exact hL▸H8⟩
 | true=>
  rw[hr]at H4;have HR:=zh hr;clear hr;go_enter Tryz.func24, Tryz.ntmps24
  go_wp2_with (first
   | (go_at_call 65;refine H4.o.mono ?_;rintro e w4 ⟨rfl,H1⟩;obtain⟨hW,hl4⟩:=H9.o w4 H1;have hW4:=zh hW;clear H1 hW)
   | (go_at_call 66;refine(H5.o L w4 HR.o hW4.o).mono ?_;rintro e w5 ⟨rfl,h5,-⟩;have Hc:=h5.lt;have hW5:=zh h5;clear h5)
   | (go_at_call 60;refine(zdtZ hW5.o (by have:=Hb.o;simp;omega) true (fun h=>by cases h)).mono ?_;rintro e w6 ⟨rfl,H6⟩))
  refine ylZ (yDZ rfl _ _ _) rfl ?_;exact⟨rfl,by first | exact H6 | exact hL▸H6⟩
end Go.Proofs.YtdncljdfmdgdaaaGreatDoor
namespace Go.Proofs.YtdncljdfmdgdaaaGreatDoor
open Go.ChangeShapes Go.WideShapes Go.ChangeAt Go.RowKit
theorem ziyZ {l:List Value} (h:l.length=7):∃a b c d e f g,l=[a,b,c,d,e,f,g]:=by
 match l,h with
 | [a,b,c,d,e,f,g],_=>exact⟨a,b,c,d,e,f,g,rfl⟩
theorem uEx : Tryz.prog.underlying 39 =some (.struct (Tryz.prog.fieldsOf 39)):=by kernel_rfl
theorem cEx : Tryz.prog.cellsOf 39 =7:=by kernel_rfl
theorem bEx:1<= Tryz.prog.bytesOf 39 :=yBZ (by kernel_rfl)
theorem cSlEx : Tryz.prog.cellsOf 37 =1:=by kernel_rfl
theorem uSlEx : Tryz.prog.underlying 37 =some (.slice 39):=by kernel_rfl
theorem fEx0:(Tryz.prog.fieldsOf 39)[0]?.map (fun f=>(f.type,f.offset))=some (36,0):=by kernel_rfl
theorem fEx1:(Tryz.prog.fieldsOf 39)[1]?.map (fun f=>(f.type,f.offset))=some (3,1):=by kernel_rfl
theorem fEx2:(Tryz.prog.fieldsOf 39)[2]?.map (fun f=>(f.type,f.offset))=some (3,2):=by kernel_rfl
theorem fEx3:(Tryz.prog.fieldsOf 39)[3]?.map (fun f=>(f.type,f.offset))=some (9,3):=by kernel_rfl
theorem fEx4:(Tryz.prog.fieldsOf 39)[4]?.map (fun f=>(f.type,f.offset))=some (24,4):=by kernel_rfl
theorem fEx5:(Tryz.prog.fieldsOf 39)[5]?.map (fun f=>(f.type,f.offset))=some (22,5):=by kernel_rfl
theorem fEx6:(Tryz.prog.fieldsOf 39)[6]?.map (fun f=>(f.type,f.offset))=some (37,6):=by kernel_rfl
theorem uSt : Tryz.prog.underlying 69 =some (.struct (Tryz.prog.fieldsOf 69)):=by kernel_rfl
theorem cSt : Tryz.prog.cellsOf 69 =7:=by kernel_rfl
theorem bSt:1<= Tryz.prog.bytesOf 69 :=yBZ (by kernel_rfl)
theorem cSlSt : Tryz.prog.cellsOf 60 =1:=by kernel_rfl
theorem uSlSt : Tryz.prog.underlying 60 =some (.slice 69):=by kernel_rfl
theorem fSt0:(Tryz.prog.fieldsOf 69)[0]?.map (fun f=>(f.type,f.offset))=some (36,0):=by kernel_rfl
theorem fSt1:(Tryz.prog.fieldsOf 69)[1]?.map (fun f=>(f.type,f.offset))=some (3,1):=by kernel_rfl
theorem fSt2:(Tryz.prog.fieldsOf 69)[2]?.map (fun f=>(f.type,f.offset))=some (9,2):=by kernel_rfl
theorem fSt3:(Tryz.prog.fieldsOf 69)[3]?.map (fun f=>(f.type,f.offset))=some (24,3):=by kernel_rfl
theorem fSt4:(Tryz.prog.fieldsOf 69)[4]?.map (fun f=>(f.type,f.offset))=some (37,4):=by kernel_rfl
theorem fSt5:(Tryz.prog.fieldsOf 69)[5]?.map (fun f=>(f.type,f.offset))=some (60,5):=by kernel_rfl
theorem fSt6:(Tryz.prog.fieldsOf 69)[6]?.map (fun f=>(f.type,f.offset))=some (60,6):=by kernel_rfl
section
variable {H:Type} {enc:TypeId×Value->H} {W:World} {sp:Nat->Bool} {held:Bool}
theorem zfqZ {fuel:Nat} {v:Value} {x:DataW H×List MemPlace} (h:DataW.trod enc Tryz.prog W 0 sp held fuel 36 [v]=some x) (hf:Fit Tryz.prog 36 x.1):∃k:Int,v=.int .i64 k:=by
 obtain⟨n0,y0,l0,h0,q0⟩:=ztZ 0 uP fP0 h hf;rw[cI]at h0;simp only[List.drop_zero,List.take_succ_cons,List.take_zero]at h0;obtain⟨k,e0,_,_⟩:=DataW.trod_int Tryz.underlying3 h0;injection e0 with e0;exact⟨k,e0⟩
theorem zfrZ {fuel:Nat} {v:Value} {x:DataW H×List MemPlace} (h:DataW.trod enc Tryz.prog W 0 sp held fuel 24 [v]=some x) (hf:Fit Tryz.prog 24 x.1) :
  ∃l,TyRow W v l/\l.length<=reachBytes/\Sx.fitsL l:=zhbZ (fun n _=>zohZ n) h hf
def ExRead (W:World) (cs:List Value):Prop:=∃v0 v1 v2 v3 v4 v5 v6 t,cs=[v0,v1,v2,v3,v4,v5,v6]/\IsEx W (.agg #[v0,v1,v2,v3,v4,v5,v6]) t/\Sx.fitsX t
theorem zhkZ {fuel:Nat} (ih:∀n,n<fuel->∀(cs:List Value) (x:DataW H×List MemPlace),DataW.trod enc Tryz.prog W 0 sp held n 39 cs=some x->Fit Tryz.prog 39 x.1->ExRead W cs)
  {v:Value} {x:DataW H×List MemPlace} (h:DataW.trod enc Tryz.prog W 0 sp held fuel 37 [v]=some x) (hf:Fit Tryz.prog 37 x.1) :
  ∃l,ExRow W v l/\l.length<=reachBytes/\Sx.fitsXs l:=by
 obtain⟨a,len,cap,rfl,hlc,hlr,hi⟩:=zdwZ uSlEx cEx (by decide) bEx h hf;have H0:∀i,i<len->∃t:Sx.Ex,(∃g off v0 v1 v2 v3 v4 v5 v6,a=some ⟨g,off,none⟩/\W.cell? ⟨g,off+(0+i) * 7,none⟩=some v0/\W.cell? ⟨g,off+(0+i) * 7+1,none⟩=some v1/\W.cell? ⟨g,off+(0+i) * 7+2,none⟩=some v2/\W.cell? ⟨g,off+(0+i) * 7+3,none⟩=some v3/\W.cell? ⟨g,off+(0+i) * 7+4,none⟩=some v4/\W.cell? ⟨g,off+(0+i) * 7+5,none⟩=some v5/\W.cell? ⟨g,off+(0+i) * 7+6,none⟩=some v6/\IsEx W (.agg #[v0,v1,v2,v3,v4,v5,v6]) t)/\Sx.fitsX t:=by intro i H1;obtain⟨g,off,cs,n,y,rfl,hn,hl,hc,ht,hfy⟩:=hi i H1;obtain⟨v0,v1,v2,v3,v4,v5,v6,t,rfl,hty,hfit⟩:=ih n hn cs y ht hfy;rw[yGZ];exact⟨t,⟨g,off,v0,v1,v2,v3,v4,v5,v6,rfl,hc 0 (by decide),hc 1 (by decide),hc 2 (by decide),hc 3 (by decide),hc 4 (by decide),hc 5 (by decide),hc 6 (by decide),hty⟩,hfit⟩
 obtain⟨l,hl,hp⟩:=zbxZ len H0;refine⟨l,⟨a,cap,by rw[hl],by omega,IsExs.mk fun m h=>(hp m h).1⟩,by omega,Sx.fitsXs_of fun t ht=>?_⟩;obtain⟨i,hi,rfl⟩:=List.getElem_of_mem ht;exact(hp i hi).2
theorem zpdZ:∀(fuel:Nat) (cs:List Value) (x:DataW H×List MemPlace),DataW.trod enc Tryz.prog W 0 sp held fuel 39 cs=some x->Fit Tryz.prog 39 x.1->ExRead W cs:=by
 intro fuel
 induction fuel using Nat.strongRecOn with
 | _ fuel ih=>
  intro cs x h hf;obtain⟨v0,v1,v2,v3,v4,v5,v6,rfl⟩:=ziyZ ((zeiZ uEx h).trans cEx);obtain⟨n0,y0,l0,h0,q0⟩:=ztZ 0 uEx fEx0 h hf;obtain⟨n1,y1,l1,h1,q1⟩:=ztZ 1 uEx fEx1 h hf;obtain⟨n2,y2,l2,h2,q2⟩:=ztZ 2 uEx fEx2 h hf;obtain⟨n3,y3,l3,h3,q3⟩:=ztZ 3 uEx fEx3 h hf;obtain⟨n4,y4,l4,h4,q4⟩:=ztZ 4 uEx fEx4 h hf;obtain⟨n5,y5,l5,h5,q5⟩:=ztZ 5 uEx fEx5 h hf;obtain⟨n6,y6,l6,h6,q6⟩:=ztZ 6 uEx fEx6 h hf;rw[cP]at h0;rw[cI]at h1 h2;rw[cS]at h3;rw[cSlt]at h4;rw[cSls]at h5;rw[cSlEx]at h6;simp only[List.drop_zero,List.drop_succ_cons,List.take_succ_cons,List.take_zero]at h0 h1 h2 h3 h4 h5 h6;obtain⟨k0,rfl⟩:=zfqZ h0 q0;obtain⟨k1,e1,_,_⟩:=DataW.trod_int Tryz.underlying3 h1;injection e1 with e1;subst e1;obtain⟨k2,e2,_,w2⟩:=DataW.trod_int Tryz.underlying3 h2;injection e2 with e2;subst e2;obtain⟨s,rfl,z3⟩:=zfaZ Tryz.underlying9 h3 q3;obtain⟨ts,r4,z4,z4'⟩:=zfrZ h4 q4;obtain⟨ns,r5,z5,z5'⟩:=zgcZ h5 q5;obtain⟨ps,⟨A,c,rfl,hc,r6⟩,z6,z6'⟩:=zhkZ (fun n hn=>ih n (by omega)) h6 q6;have hb:=zodZ w2;refine⟨_,_,_,_,_,_,_,.mk k0 k1 k2 s ts ns ps,rfl,?_,?_⟩
  ·rw[IsEx];exact⟨_,_,A,c,rfl,r4,r5,hc,r6,hb.1,hb.2⟩
  ·rw[Sx.fitsX];exact⟨z3,z5,z5',z4,z4',z6,z6'⟩
def StRead (W:World) (cs:List Value):Prop:=∃v0 v1 v2 v3 v4 v5 v6 t,cs=[v0,v1,v2,v3,v4,v5,v6]/\IsSt W (.agg #[v0,v1,v2,v3,v4,v5,v6]) t/\Sx.fitsS t
theorem zelZ {fuel:Nat} (ih:∀n,n<fuel->∀(cs:List Value) (x:DataW H×List MemPlace),DataW.trod enc Tryz.prog W 0 sp held n 69 cs=some x->Fit Tryz.prog 69 x.1->StRead W cs)
  {v:Value} {x:DataW H×List MemPlace} (h:DataW.trod enc Tryz.prog W 0 sp held fuel 60 [v]=some x) (hf:Fit Tryz.prog 60 x.1) :
  ∃l,StRow W v l/\l.length<=reachBytes/\Sx.fitsSs l:=by
 obtain⟨a,len,cap,rfl,hlc,hlr,hi⟩:=zdwZ uSlSt cSt (by decide) bSt h hf;have H0:∀i,i<len->∃t:Sx.St,(∃g off v0 v1 v2 v3 v4 v5 v6,a=some ⟨g,off,none⟩/\W.cell? ⟨g,off+(0+i) * 7,none⟩=some v0/\W.cell? ⟨g,off+(0+i) * 7+1,none⟩=some v1/\W.cell? ⟨g,off+(0+i) * 7+2,none⟩=some v2/\W.cell? ⟨g,off+(0+i) * 7+3,none⟩=some v3/\W.cell? ⟨g,off+(0+i) * 7+4,none⟩=some v4/\W.cell? ⟨g,off+(0+i) * 7+5,none⟩=some v5/\W.cell? ⟨g,off+(0+i) * 7+6,none⟩=some v6/\IsSt W (.agg #[v0,v1,v2,v3,v4,v5,v6]) t)/\Sx.fitsS t:=by intro i H1;obtain⟨g,off,cs,n,y,rfl,hn,hl,hc,ht,hfy⟩:=hi i H1;obtain⟨v0,v1,v2,v3,v4,v5,v6,t,rfl,hty,hfit⟩:=ih n hn cs y ht hfy;rw[yGZ];exact⟨t,⟨g,off,v0,v1,v2,v3,v4,v5,v6,rfl,hc 0 (by decide),hc 1 (by decide),hc 2 (by decide),hc 3 (by decide),hc 4 (by decide),hc 5 (by decide),hc 6 (by decide),hty⟩,hfit⟩
 obtain⟨l,hl,hp⟩:=zbxZ len H0;refine⟨l,⟨a,cap,by rw[hl],by omega,IsSts.mk fun m h=>(hp m h).1⟩,by omega,Sx.fitsSs_of fun t ht=>?_⟩;obtain⟨i,hi,rfl⟩:=List.getElem_of_mem ht;exact(hp i hi).2
theorem zksZ {fuel:Nat} {v:Value} {x:DataW H×List MemPlace} (h:DataW.trod enc Tryz.prog W 0 sp held fuel 37 [v]=some x) (hf:Fit Tryz.prog 37 x.1) :
  ∃l,ExRow W v l/\l.length<=reachBytes/\Sx.fitsXs l:=zhkZ (fun n _=>zpdZ n) h hf
theorem zpeZ:∀(fuel:Nat) (cs:List Value) (x:DataW H×List MemPlace),DataW.trod enc Tryz.prog W 0 sp held fuel 69 cs=some x->Fit Tryz.prog 69 x.1->StRead W cs:=by
 intro fuel
 induction fuel using Nat.strongRecOn with
 | _ fuel ih=>
  intro cs x h hf;obtain⟨v0,v1,v2,v3,v4,v5,v6,rfl⟩:=ziyZ ((zeiZ uSt h).trans cSt);obtain⟨n0,y0,l0,h0,q0⟩:=ztZ 0 uSt fSt0 h hf;obtain⟨n1,y1,l1,h1,q1⟩:=ztZ 1 uSt fSt1 h hf;obtain⟨n2,y2,l2,h2,q2⟩:=ztZ 2 uSt fSt2 h hf;obtain⟨n3,y3,l3,h3,q3⟩:=ztZ 3 uSt fSt3 h hf;obtain⟨n4,y4,l4,h4,q4⟩:=ztZ 4 uSt fSt4 h hf;obtain⟨n5,y5,l5,h5,q5⟩:=ztZ 5 uSt fSt5 h hf;obtain⟨n6,y6,l6,h6,q6⟩:=ztZ 6 uSt fSt6 h hf;rw[cP]at h0;rw[cI]at h1;rw[cS]at h2;rw[cSlt]at h3;rw[cSlEx]at h4;rw[cSlSt]at h5 h6;simp only[List.drop_zero,List.drop_succ_cons,List.take_succ_cons,List.take_zero]at h0 h1 h2 h3 h4 h5 h6;obtain⟨k0,rfl⟩:=zfqZ h0 q0;obtain⟨k1,e1,_,_⟩:=DataW.trod_int Tryz.underlying3 h1;injection e1 with e1;subst e1;obtain⟨s,rfl,z2⟩:=zfaZ Tryz.underlying9 h2 q2;obtain⟨ts,r3,z3,z3'⟩:=zfrZ h3 q3;obtain⟨xs,r4,z4,z4'⟩:=zksZ h4 q4;obtain⟨bs,⟨A,c,rfl,hc,r5⟩,z5,z5'⟩:=zelZ (fun n hn=>ih n (by omega)) h5 q5;obtain⟨es,⟨A2,c2,rfl,hc2,r6⟩,z6,z6'⟩:=zelZ (fun n hn=>ih n (by omega)) h6 q6;refine⟨_,_,_,_,_,_,_,.mk k0 k1 s ts xs bs es,rfl,?_,?_⟩
  ·rw[IsSt];exact⟨_,_,A,c,A2,c2,rfl,r3,r4,hc,r5,hc2,r6⟩
  ·rw[Sx.fitsS];exact⟨z2,z3,z3',z4,z4',⟨z5,z5'⟩,⟨z6,z6'⟩⟩
def StsArg (W:World) (v:Value) (l:List Sx.St):Prop:=StRow W v l/\l.length<=140737488351232/\Sx.fitsSs l
theorem zugZ {base:Nat} {v:Value} {d:DataW H} {p:List MemPlace} (hval:Value.okWide Tryz.prog W .any base 60 v) (hd:DataW.Trod enc Tryz.prog W 0 sp held 60 v d p) (hf:Fit Tryz.prog 60 d) :
  ∃l,StsArg W v l:=by
 obtain⟨a0,len,cap,rfl⟩:=okWide_slice uSlSt hval;obtain⟨fuel,h⟩:=hd;exact zelZ (fun n _=>zpeZ n) (v:=.slice a0 len cap) (show DataW.trod enc Tryz.prog W 0 sp held fuel 60 [.slice a0 len cap]=some (d,p)from h) hf
end
end Go.Proofs.YtdncljdfmdgdaaaGreatDoor
namespace Go.Proofs.YtdncljdfmdgdaaaGreatDoor
open Go.RowKit Go.Shelf
structure CopyS (w:World) (vy:Value) (l:List Sx.St) (X:World):Prop where
 lw:LW w X
 row:StRow X vy l
theorem CopyS.go {w X X':World} {vy:Value} {l:List Sx.St} (h:CopyS w vy l X) (hb:Below X.heap.size X X'):CopyS w vy l X':=⟨h.lw.go hb,h.row.below hb⟩
theorem zuhZ (hruns:RunsOk) (l:List Sx.St) (v:Value) (w:World) (ha:StsArg w v l) (hG:GL w) (hN:NG<=w.heap.size) :
  Calls Tryz.prog 6 #[v] w fun e w'=>e=.returned (.bool true)/\LW w w':=by
 obtain⟨hta,hll,hfa⟩:=ha;have Ho:=zh hta.num;obtain⟨A,c,rfl,hca,hra⟩:=hta;have HV:=zh (show StRow w (.slice A l.length c) l from⟨A,c,rfl,hca,hra⟩);have H0:=zh (LW.refl hG hN);have Hd:=zh (fun X (hX:LW w X)=>hruns.at hX);have Hp:=zh (fun X (hX:LW w X)=>(zroZ _ l (Nat.lt_succ_self _) hfa hll 20000 _ X (by omega) (by omega) (HV.o.below hX.b)).mono fun e w' (h:SizeIs 20000 (Sx.sizeSs l) X e w')=>(show ∃r:Nat,e=.returned (.int .i64 (r:Nat))/\(r<20000->r=Sx.sizeSs l)/\r<=1000000000000000/\LW w w' by obtain⟨r,h1,h2,h3,h4⟩:=h;exact⟨r,h1,h3,by omega,hX.go h4⟩));obtain⟨k,hk⟩:=zE (l.length);rw[hk]at HV Hp ⊢;clear hfa hll hca hra hG hN hk;go_enter Tryz.func6, Tryz.ntmps6;go_wp2_with fail;refine(Hp.o w H0.o).mono ?_;rintro e w3 ⟨r,rfl,Hr,Hw,Hg⟩;have H3:=zh Hg;have r0:(0:Int)<=(r:Int):=by omega
 have r1:(r:Int)<=1000000000000000:=by omega
 clear Hg;by_cases hra:r<20000
 ·have Hb:=zh (show Sx.sizeSs l<20000 by have:=Hr hra;omega);have ga:¬(20000:Int)<=(r:Int):=(by omega);have ga2:decide ((20000:Int)<=(r:Int))=false:=(by rw[yvZ];omega);clear Hr Hw hra;go_wp2_with fail;refine(zguZ _ l (Nat.lt_succ_self _) (by have:=Hb.o;omega) _ w3 (HV.o.below H3.o.b)).mono ?_;rintro e w4 ⟨v',rfl,hown,Ht⟩;have H2:=hown.sub (zsgZ _ _);obtain⟨a1,e1,rfl,-,-⟩:=id H2;obtain⟨vy,hvy⟩:=zE (Value.slice a1 l.length e1);rw[hvy]at H2 ⊢;have H4:=zh (show CopyS w vy l w4 from⟨H3.o.go Ht,H2⟩);have Hs:=zh (fun X (hX:CopyS w vy l X)=>(zflZ _ l (Nat.lt_succ_self _) 64 _ X X (ybZ _) (LW.refl hX.lw.g hX.lw.n) (HV.o.below hX.lw.b) (by have:=Hb.o;omega)).mono fun e w' h=>(show e=.returned (.bool (Sx.rightSs NM 64 l))/\CopyS w vy l w' from⟨h.1,hX.go h.2.b⟩))
  have Hn:=zh (fun X (hX:CopyS w vy l X) (hr:Sx.rightSs NM 64 l=true)=>(zgpZ _ l (Nat.lt_succ_self _) (Sx.okS_mem hr) Ho.o (by have:=Hb.o;omega) _ X hX.lw.g hX.lw.n (HV.o.below hX.lw.b)).mono fun e w' h=>(show ∃A9 e9,e=.returned (.slice A9 (Sx.stmts SY l).length e9)/\StrRow w' (.slice A9 (Sx.stmts SY l).length e9) (Sx.stmts SY l)/\CopyS w vy l w' by
   obtain⟨u,h1,h2,h3⟩:=h;obtain⟨A9,e9,rfl⟩:=h2.slice
   exact⟨A9,e9,h1,h2.row,hX.go h3⟩))
  have Hk:=zh (fun X (hX:CopyS w vy l X)=>(zkcZ l _ X hX.lw.g.gs hX.lw.n hX.row (by have:=Hb.o;omega) (by have:=Hb.o;have:=Sx.stmts_len SY l;omega)).mono fun e w' h=>(show e=.returned (.tuple #[.string ⟨(Sx.said (Sx.rightSs NM 64 l) (Sx.stmts SY l)).1.toArray⟩,.int .i64 ((Sx.said (Sx.rightSs NM 64 l) (Sx.stmts SY l)).2:Nat)])/\Below X.heap.size X w'/\CopyS w vy l w' from⟨h.1,h.2,hX.go h.2⟩));have Hi:=zh (fun X (A9:Option Addr) (n9 e9:Nat) (hX:CopyS w vy l X) (hr:Sx.rightSs NM 64 l=true->StrRow X (.slice A9 n9 e9) (Sx.stmts SY l))=>(zvxZ (Sx.rightSs NM 64 l) (Sx.stmts SY l) A9 n9 e9 X (fun h=>⟨hr h,by have h1:=Sx.stmts_len SY l;have:=Hb.o;omega,Sx.lks_stmts (by have:=Hb.o;omega) h Ho.o,Sx.tks_stmts l 64 h Ho.o⟩)).mono fun e w' h=>(show e=.returned (.bool true)/\CopyS w vy l w' from⟨h.1,hX.go h.2⟩));have Hq:=zh (fun X (hX:CopyS w vy l X)=>(zeaZ _ l (Nat.lt_succ_self _) _ _ X (by have:=Hb.o;omega) (HV.o.below hX.lw.b) hX.row).mono fun e w' h=>(show e=.returned (.bool true)/\LW w w' from⟨h.1,hX.lw.go h.2⟩));obtain⟨rt,hrt⟩:=zE (Sx.rightSs NM 64 l);obtain⟨tb,htb⟩:∃q,(⟨(Sx.said (Sx.rightSs NM 64 l) (Sx.stmts SY l)).1.toArray⟩:ByteArray)=q:=⟨_,rfl⟩;obtain⟨tn,htn⟩:∃q:Int,(((Sx.said (Sx.rightSs NM 64 l) (Sx.stmts SY l)).2:Nat):Int)=q:=⟨_,rfl⟩;rw[htb,htn]at Hk Hi;rw[hrt]at Hs Hn Hi;clear hrt htb htn;obtain⟨tl,htl⟩:=zE (Sx.stmts SY l);rw[htl]at Hn Hi;clear htl hown Ht H2 hvy Hp H3 H0;go_wp2_with fail;refine(Hs.o w4 H4.o).mono ?_;rintro e w6 ⟨rfl,He⟩;have H6:=zh He;clear He
  cases rt with
  | false=>
   go_wp2_with (first
    | (go_at_call 24;refine(Hk.o w6 H6.o).mono ?_;rintro e w8 ⟨rfl,Hj,H5⟩;have H8:=zh H5;clear Hj H5)
    | (go_at_call 29;refine(Hi.o w8 none 0 0 H8.o (fun h=>by cases h)).mono ?_;rintro e w9 ⟨rfl,Ha⟩;have H9:=zh Ha;clear Ha)
    | (go_at_call 40;refine(Hq.o w9 H9.o).mono ?_;rintro e w10 ⟨rfl,H1⟩;have Hl:=zh H1;clear H1)
    | (go_at_call 3;refine(Hd.o w10 Hl.o).mono ?_;rintro e w11 ⟨rfl,Hc⟩))
   go_ret;exact⟨rfl,Hc⟩
  | true=>
   go_wp2_with (first
    | (go_at_call 39;refine(Hn.o w6 H6.o (by simp)).mono ?_;rintro e w7 ⟨A9,e9,rfl,Hh,Hf⟩;have Hm:=zh Hh;have H7:=zh Hf;clear Hh Hf)
    | (go_at_call 24;refine(Hk.o w7 H7.o).mono ?_;rintro e w8 ⟨rfl,Hj,H5⟩;have Hv:=zh Hj;have H8:=zh H5;clear Hj H5)
    | (go_at_call 29;refine(Hi.o w8 A9 tl.length e9 H8.o (by intros;exact Hm.o.below Hv.o)).mono ?_;rintro e w9 ⟨rfl,Ha⟩;have H9:=zh Ha;clear Ha)
    | (go_at_call 40;refine(Hq.o w9 H9.o).mono ?_;rintro e w10 ⟨rfl,H1⟩;have Hl:=zh H1;clear H1)
    | (go_at_call 3;refine(Hd.o w10 Hl.o).mono ?_;rintro e w11 ⟨rfl,Hc⟩))
   go_ret;exact⟨rfl,Hc⟩
 ·have ga:(20000:Int)<=(r:Int):=(by omega);have ga2:decide ((20000:Int)<=(r:Int))=true:=(by rw[decide_eq_true_iff];omega);go_wp2_with (go_at_call 3;refine(Hd.o w3 H3.o).mono ?_;rintro e w5 ⟨rfl,Hu⟩);go_ret;exact⟨rfl,Hu⟩
theorem size3 (w:World) (a b c:Obj):(((w.alloc a).alloc b).alloc c).heap.size=w.heap.size+1+1+1:=by simp
theorem zctZ (k:Int) (x y:Sx.Ex) (v u:Value) (w:World) (hv:IsEx w v x) (hu:IsEx w u y) :
  Calls Tryz.prog 21 #[.int .i64 k,v,u] w fun e w'=>∃g,e=.returned (.agg #[.int .i64 0,.int .i64 k,.int .i64 0,.string ⟨#[]⟩,.slice none 0 0,.slice none 0 0,.slice (some ⟨g,0,none⟩) 2 2])/\ExRow w' (.slice (some ⟨g,0,none⟩) 2 2) [x,y]/\Below w.heap.size w w':=by
 obtain⟨At,ct,An,cn,Ap,cp,rfl,-⟩:=hv.agg;obtain⟨Bt,dt,Bn,dn,Bp,dp,rfl,-⟩:=hu.agg;have HV:=zh hv;have HU:=zh hu;clear hv hu;go_enter Tryz.func21, Tryz.ntmps21;go_wp2;refine ylZ (v:=.agg #[.int .i64 0,.int .i64 k,.int .i64 0,.string ⟨#[]⟩,.slice none 0 0,.slice none 0 0,.slice (some ⟨_,0,none⟩) 2 2]) (by simp[results, Tryz.results21,go_sem];rfl) rfl ⟨_,rfl,?_,?_⟩
 ·have hb:Below w.heap.size w (((w.alloc (.cells #[.int .i64 x.pos,.int .i64 x.kind,.int .i64 x.n,.string ⟨x.s.toArray⟩,.slice At x.t.length ct,.slice An x.names.length cn,.slice Ap x.parts.length cp] 39)).alloc
    (.cells #[.int .i64 y.pos,.int .i64 y.kind,.int .i64 y.n,.string ⟨y.s.toArray⟩,.slice Bt y.t.length dt,.slice Bn y.names.length dn,.slice Bp y.parts.length dp] 39)).alloc
    (.cells #[.int .i64 0,.int .i64 k,.int .i64 0,.string ⟨#[]⟩,.slice none 0 0,.slice none 0 0,.slice (some ⟨w.heap.size+1+1+1,0,none⟩) 2 2] 39)):=
   (((yqZ _ _).alloc (ybZ _) _).alloc (by simp) _).alloc (by simp;omega) _
  have h:=ExRow.new2 (IsEx.below hb _ _ HV.o) (IsEx.below hb _ _ HU.o);rw[size3]at h;exact h
 ·exact((((yqZ _ _).alloc (ybZ _) _).alloc (by simp) _).alloc (by simp;omega) _).alloc (by simp;omega) _
theorem zcwZ (x:Sx.Ex) (s:Lx.Bytes) (v:Value) (w:World) (hG:GS w) (hN:NG<=w.heap.size) (hv:IsEx w v x) (hz:Sx.sizeX x<=1000000) (hlen:(Sx.expr SY x).length<=900000000) (hs:Sx.said (Sx.rightX NM 64 x) (Sx.expr SY x)=(s,0)) :
  Calls Tryz.prog 20 #[v,.string ⟨s.toArray⟩] w fun e w'=>e=.returned (.bool true)/\Below w.heap.size w w':=by
 have hx:=fun X (hX:Below w.heap.size w X)=>znlZ x v X (hG.below hX) (ymZ hN hX.size) (IsEx.below hX _ _ hv) hz hlen;rw[hs]at hx;obtain⟨At,ct,An,cn,Ap,cp,rfl,-⟩:=hv.agg;obtain⟨w2,hw2⟩:=zE (w.alloc (.cells #[.int .i64 x.pos,.int .i64 x.kind,.int .i64 x.n,.string ⟨x.s.toArray⟩,.slice At x.t.length ct,.slice An x.names.length cn,.slice Ap x.parts.length cp] 39));have H1:Below w.heap.size w w2:=by rw[<-hw2];exact zeZ (yeZ w _ none)
 have H0:=ydZ w (.cells #[.int .i64 x.pos,.int .i64 x.kind,.int .i64 x.n,.string ⟨x.s.toArray⟩,.slice At x.t.length ct,.slice An x.names.length cn,.slice Ap x.parts.length cp] 39);rw[hw2]at H0;obtain⟨x0,x1,x2,x3,x4,x5,x6⟩:=zbZ H0;have hl:=zaZ H0;have HX:=zh (hx w2 H1);have HB:=zh H1;clear hx H1 H0 hG hs hlen hz hv;go_enter Tryz.func20, Tryz.ntmps20;go_wp2_with (go_at_call 23;refine HX.o.mono ?_;rintro e w3 ⟨rfl,H2⟩);go_ret;exact⟨by simp,HB.o.trans (H2.mono HB.o.size)⟩
end Go.Proofs.YtdncljdfmdgdaaaGreatDoor
