/-
  The walk of coilkeep.Stmts: of two copies of one list.
-/
import Derived.Test.YtdncljdfmdgdaaaGreatDoorM42
set_option linter.unusedSimpArgs false
set_option linter.unusedVariables false
set_option maxRecDepth 100000
set_option maxHeartbeats 16000000
namespace Go.Proofs.YtdncljdfmdgdaaaGreatDoor
open Go.RowKit Go.Shelf
def KSsOk (l:List Sx.St):Prop:=∀(v v':Value) (W:World),Sx.sizeSs l<=1000000->StRow W v l->StRow W v' l->
 Calls Tryz.prog 40 #[v,v',.bool true] W fun e W'=>e=.returned (.bool true)/\Below W.heap.size W W'
theorem zozZ (l:List Sx.St) (ih:∀s∈l,KSsOk s.body/\KSsOk s.els):KSsOk l:=by
 intro v x W H9 hv hx;have Hv:=Sx.length_sizeSs l;obtain⟨A1,c1,rfl,hca,hra⟩:=hv;obtain⟨A2,c2,rfl,hcb,hrb⟩:=hx;have HV:=zh (show StRow W (.slice A1 l.length c1) l from⟨A1,c1,rfl,hca,hra⟩);have HX:=zh (show StRow W (.slice A2 l.length c2) l from⟨A2,c2,rfl,hcb,hrb⟩);clear hca hra hcb hrb;obtain⟨k,hk⟩:=zE (l.length);rw[hk]at HV HX ⊢;have k0:(0:Int)<=(k:Int):=by omega
 have k1:(k:Int)<=1000000:=by omega
 have HK:=zh hk;have Hs:=zh H9;have Hu:=zh ih;obtain⟨L,hL⟩:=zE (W.heap.size);have HL:=zh hL;clear hk Hv H9 ih hL;go_enter Tryz.func40, Tryz.ntmps40;go_wp2_with fail;go_loopg [7] k (fun i v wr=>∃(q:Nat),i=k-q/\v=.int .i64 (q:Int)/\q<=k/\Below L W wr)
 case atStart=>exact⟨0,rfl,rfl,yxZ _,yqZ _ _⟩
 case round=>
  obtain⟨q,hi,rfl,hq,hb⟩:=hrel;have HI:=zh hi;have HB:=zh hb;have q0:(0:Int)<=(q:Int):=(by omega);have Hf:=zh (show L<=wr.heap.size by have:=hb.size;have:=HL.o;omega);clear hi hb;by_cases hlt:q<k
  ·have Hq:(q:Int)<(k:Int):=(by omega);have H2:q<l.length:=(by have:=HK.o;omega);obtain⟨g,off,At,ct,Ax,cx,Ab,cb,Ae,ce,rfl,hty,hc5⟩:=HV.o.spot q H2;obtain⟨g2,off2,Bt,dt,Bx,dx,Bb,db,Be,de,rfl,hty2,hd5⟩:=HX.o.spot q H2;rw[HL.o]at hc5 hd5;have Hg:=Sx.sizeS_mem (yfZ H2);have H1:=yfZ H2;obtain⟨t,hp⟩:=zE (l[q]'H2);rw[hp]at hc5 hd5 hty Hg H1 hty2;have Hr:=Sx.sizeS_parts t;have Ho:=Sx.length_sizeXs t.x;have Hp:=Sx.length_size t.t;have Ha:=Hu.o t H1;have H9:=Hs.o;have Hb:=HB.o;have Hc:=HL.o;have H8:=IsSt.below (show Below W.heap.size W wr by rw[Hc];exact Hb) _ _ hty;have H0:=IsSt.below (show Below W.heap.size W wr by rw[Hc];exact Hb) _ _ hty2;obtain⟨At',ct',Ax',cx',Ab',cb',Ae',ce',hagg,h1,h2,h3,h4⟩:=H8.agg;injection hagg with hagg;simp only[ykbZ,ygbZ,Value.slice.injEq,ymbZ,true_and]at hagg;obtain⟨⟨rfl,rfl⟩,⟨rfl,rfl⟩,⟨rfl,rfl⟩,⟨rfl,rfl⟩⟩:=hagg;obtain⟨Bt',dt',Bx',dx',Bb',db',Be',de',hagg,h5,h6,h7,h8⟩:=H0.agg;injection hagg with hagg;simp only[ykbZ,ygbZ,Value.slice.injEq,ymbZ,true_and]at hagg;obtain⟨⟨rfl,rfl⟩,⟨rfl,rfl⟩,⟨rfl,rfl⟩,⟨rfl,rfl⟩⟩:=hagg;have HT:=zh (fun X (hX:Below wr.heap.size wr X)=>(zgeZ t.t (fun p _=>zejZ _ p (ybZ _)) t.t _ _ X (by omega) (by omega) (h1.below hX) (h5.below hX)).mono fun e w' h=>(show e=.returned (.bool true)/\Below X.heap.size X w' from⟨by rw[h.1,(Sx.eqTs_iff t.t t.t).2 rfl],h.2⟩));have Hh:=zh (fun X (hX:Below wr.heap.size wr X)=>zkaZ t.x (fun p _=>zhjZ _ p (ybZ _)) _ _ X (by omega) (h2.below hX) (h6.below hX));have Hm:=zh (fun X (hX:Below wr.heap.size wr X)=>Ha.1 _ _ X (by omega) (h3.below hX) (h7.below hX));have He:=zh (fun X (hX:Below wr.heap.size wr X)=>Ha.2 _ _ X (by omega) (h4.below hX) (h8.below hX));obtain⟨K,hK⟩:=zE (wr.heap.size);obtain⟨w2,hw2⟩:=zE (wr.alloc (.cells #[.int .i64 t.pos,.int .i64 t.kind,.string ⟨t.name.toArray⟩,.slice At t.t.length ct,.slice Ax t.x.length cx,.slice Ab t.body.length cb,.slice Ae t.els.length ce] 69));obtain⟨K5,hK5⟩:=zE (w2.heap.size);obtain⟨w3,hw3⟩:=zE (w2.alloc (.cells #[.int .i64 t.pos,.int .i64 t.kind,.string ⟨t.name.toArray⟩,.slice Bt t.t.length dt,.slice Bx t.x.length dx,.slice Bb t.body.length db,.slice Be t.els.length de] 69));have g2':=yeZ wr (.cells #[.int .i64 t.pos,.int .i64 t.kind,.string ⟨t.name.toArray⟩,.slice At t.t.length ct,.slice Ax t.x.length cx,.slice Ab t.body.length cb,.slice Ae t.els.length ce] 69) none;have x2':=ydZ wr (.cells #[.int .i64 t.pos,.int .i64 t.kind,.string ⟨t.name.toArray⟩,.slice At t.t.length ct,.slice Ax t.x.length cx,.slice Ab t.body.length cb,.slice Ae t.els.length ce] 69);rw[hw2]at g2' x2';have g3':=yeZ w2 (.cells #[.int .i64 t.pos,.int .i64 t.kind,.string ⟨t.name.toArray⟩,.slice Bt t.t.length dt,.slice Bx t.x.length dx,.slice Bb t.body.length db,.slice Be t.els.length de] 69) none;have x3':=ydZ w2 (.cells #[.int .i64 t.pos,.int .i64 t.kind,.string ⟨t.name.toArray⟩,.slice Bt t.t.length dt,.slice Bx t.x.length dx,.slice Bb t.body.length db,.slice Be t.els.length de] 69);rw[hw3]at g3' x3';rw[hK]at x2' HT Hh Hm He;rw[hK5]at x3';have H3:=zh (show Held2 K wr #[.int .i64 t.pos,.int .i64 t.kind,.string ⟨t.name.toArray⟩,.slice At t.t.length ct,.slice Ax t.x.length cx,.slice Ab t.body.length cb,.slice Ae t.els.length ce] 69 K5 #[.int .i64 t.pos,.int .i64 t.kind,.string ⟨t.name.toArray⟩,.slice Bt t.t.length dt,.slice Bx t.x.length dx,.slice Bb t.body.length db,.slice Be t.els.length de] 69 w3 from⟨by rw[<-hK];exact(zeZ g2').trans ((zeZ g3').mono g2'.size),(g3'.block K (zaZ x2') (fun e=>nomatch e)).trans x2',x3'⟩);have Hi:=zh hw2;have Hj:=zh hw3;have Hw:=zh (show ∀X,Below K wr X->Below L W X from fun X h=>HB.o.trans (h.mono (by rw[<-hK];exact Hf.o)));obtain⟨hg,x0,x1,x2,x3,x4,x5,x6⟩:=hc5 wr HB.o;have Ht:=hd5 w2 (HB.o.trans ((zeZ g2').mono Hf.o));clear hty hty2 H8 H0 hc5 hd5 Hg H1 hp Hr Ho Hp Ha H9 Hb Hc h1 h2 h3 h4 h5 h6 h7 h8 g2' x2' g3' x3' hw2 hw3;go_upto_region 7 with fail
   rw[Hi.o];clear hg x0 x1 x2 x3 x4 x5 x6;obtain⟨hg,y0,y1,y2,y3,y4,y5,y6⟩:=Ht;go_upto_region 8 with fail
   rw[Hj.o];clear hg y0 y1 y2 y3 y4 y5 y6 Hi Hj;obtain⟨x0,x1,x2,x3,x4,x5,x6⟩:=zbZ H3.o.b1;obtain⟨y0,y1,y2,y3,y4,y5,y6⟩:=zbZ H3.o.b2;obtain⟨l1,l2⟩:=H3.o.lt
   go_wp2_with (first
    | (go_at_call 72;refine(HT.o _ H3.o.b).mono ?_;rintro e w4 ⟨rfl,Hn⟩;have H4:=zh (H3.o.go Hn);clear Hn x0 x1 x2 x3 x4 x5 x6 y0 y1 y2 y3 y4 y5 y6 l1 l2;obtain⟨x0,x1,x2,x3,x4,x5,x6⟩:=zbZ H4.o.b1;obtain⟨y0,y1,y2,y3,y4,y5,y6⟩:=zbZ H4.o.b2;obtain⟨l1,l2⟩:=H4.o.lt)
    | (go_at_call 82;refine(Hh.o _ H4.o.b).mono ?_;rintro e w5 ⟨rfl,Hk⟩;have H5:=zh (H4.o.go Hk);clear Hk x0 x1 x2 x3 x4 x5 x6 y0 y1 y2 y3 y4 y5 y6 l1 l2;obtain⟨x0,x1,x2,x3,x4,x5,x6⟩:=zbZ H5.o.b1;obtain⟨y0,y1,y2,y3,y4,y5,y6⟩:=zbZ H5.o.b2;obtain⟨l1,l2⟩:=H5.o.lt)
    | (go_at_call 40;refine(Hm.o _ H5.o.b).mono ?_;rintro e w6 ⟨rfl,Hd⟩;have H6:=zh (H5.o.go Hd);have H5:=True.intro;clear Hd x0 x1 x2 x3 x4 x5 x6 y0 y1 y2 y3 y4 y5 y6 l1 l2;obtain⟨x0,x1,x2,x3,x4,x5,x6⟩:=zbZ H6.o.b1;obtain⟨y0,y1,y2,y3,y4,y5,y6⟩:=zbZ H6.o.b2;obtain⟨l1,l2⟩:=H6.o.lt)
    | (go_at_call 40;refine(He.o _ H6.o.b).mono ?_;rintro e w7 ⟨rfl,Hl⟩;have H7:=zh (H6.o.go Hl);clear Hl))
   go_roundg (k-(q+1))
   case measure=>have:=HI.o;omega
   case rel=>exact⟨q+1,rfl,by simp,hlt,Hw.o _ H7.o.b⟩
  ·have Hq:¬(q:Int)<(k:Int):=(by omega);go_wp2_with fail;go_ret;rw[HL.o];exact⟨rfl,HB.o⟩
theorem zeaZ:∀(n:Nat) (l:List Sx.St),Sx.sizeSs l<n->KSsOk l
 | 0,l,h=>by omega
 | n+1,l,h=>zozZ l fun s hs=>by have:=Sx.sizeS_mem hs;have:=Sx.sizeS_parts s;exact⟨zeaZ n s.body (by omega),zeaZ n s.els (by omega)⟩
theorem zkrZ {P:Program} {w:World} {o:Oper} {ρ:Operand->Value} {K:Value->World->Prop} (s x:Operand) (t:TypeId)
  (ho:o.op=.call { callee:=.builtin .append,args:=#[s,x],argTypes:=#[t,t] })
  (base:Nat) (e:TypeId) (i:TypeInfo) (z:Value) (size bytes:Nat) (ht:P.underlying t=some (.slice e)) (hi:P.info? e=some i) (hz:i.zero=some z)
  (hsize:i.size=size) (hby:i.bytes=bytes) (hzs:z.cells.size=size) (hsz:0<size)
  (v:Value) (n:Nat) (xs:List Value) (hs:ρ s=v) (hown:w.ownsRow base e size v n xs)
  (ad:Addr) (m c:Nat) (news:List Value) (hx:ρ x=.slice (some ad) m c) (hl:news.length=m * size) (hnews:∀j u,news[j]? =some u->w.cell? (ad.add j)=some u) (h1:∀u∈news,u.oneCell'=true)
  (h63:n+m<=maxLen) (hbytes:(n+m) * bytes<=140737488355328) (hbase:base<=w.heap.size)
  (h:∀v' w',w'.ownsRow base e size v' (n+m) (xs++news)->w.grownBy w' v.ownBlock->(v'.ownBlock=v.ownBlock\/v'.ownBlock=some w.heap.size)->K v' w'):opWp P o ρ w K:=by
 obtain⟨v',w',hr,h2,h3,h4,h5⟩:=run_append_own_at (P:=P) w base t o.type e i z size bytes ht hi hz hsize hby hzs hsz v n xs hown ad m c news hl hnews h1 h63 hbytes hbase;unfold opWp execOp;simp only[ho,resolve,invoke,builtin,Sem.run_bind,Sem.run_pure,Result.andThen_ok,yIZ,yPZ,yRZ,hs,hx,hr];exact h v' w' h2 h3 h5
theorem zwhZ {α:Type} {R:World->List Value->α->Prop} (hR:∀W W' cs t,Sub W W'->R W cs t->R W' cs t) {P:Program} {w:World} {o:Oper} {ρ:Operand->Value} {K:Value->World->Prop} (s x:Operand) (t:TypeId)
  (ho:o.op=.call { callee:=.builtin .append,args:=#[s,x],argTypes:=#[t,t] })
  {e size L:Nat} {X:Option Nat} {v:Value} {n:Nat} {l:List α} (hown:Own R e size L X w v l) (hln:l.length=n) {z:Value} {bytes:Nat} (ht:P.underlying t=some (.slice e)) (hi:(P.info? e).map (fun i=>(i.zero,i.size,i.bytes))=some (some z,size,bytes)) (hzs:z.cells.size=size) (hsz:0<size)
  (hs:ρ s=v) {k c:Nat} {cs:List Value} {cf:Array Value} (hcf:cf.toList=cs) {u:α} {B:Nat} (hx:ρ x=.slice (some ⟨k,0,none⟩) 1 c) (hk:w.heap[k]? =some (.cells cf e (0,0))) (hcs:cs.length=size) (h1:∀u∈cs,u.oneCell'=true)
  (hr:R (only w (since B)) cs u) (hLB:L<=B) (hBw:B<=w.heap.size) (hXB:∀b,X=some b->b<B) (hgB:∀b,v.ownBlock=some b->b<B)
  (hn:n+1<=1000000) (hby:bytes<=1000)
  (h:∀A c w',Own R e size L X w' (.slice A (n+1) c) (l++[u])->w.grownBy w' v.ownBlock->K (.slice A (n+1) c) w'):opWp P o ρ w K:=by
 subst hln;obtain⟨xss,hrow,hl,hxx,hel⟩:=hown;obtain⟨i,hi1,hi2⟩:=yibZ.1 hi;simp only[Prod.mk.injEq]at hi2;obtain⟨i1,i2,i3⟩:=hi2;refine zkrZ s x t ho L e i z size bytes ht hi1 i1 i2 i3 hzs hsz v l.length xss.flatten hs hrow ⟨k,0,none⟩ 1 c cs hx (by rw[hcs,Nat.one_mul]) ?_ h1 (by unfold maxLen;omega) ?_ (by omega) ?_
 ·intro j q hj;rw[zclZ,yGZ,zdZ hk,<-Array.getElem?_toList,hcf];exact hj
 ·have:=Nat.mul_le_mul hn hby;omega
 ·intro v' w' hown' hg H1;have H0:∀b,v'.ownBlock=some b->v.ownBlock=some b\/b=w.heap.size:=by
   intro b hb;rcases H1 with h | h
   ·exact .inl (h.symm.trans hb)
   ·right;rw[h]at hb;injection hb with hb;exact hb.symm
  have H2:∃A c,v'=.slice A (l.length+1) c:=by
   rcases hown'.2 with⟨rfl,h0⟩ | ⟨g,cap,cur,rfl,-⟩
   ·omega
   ·exact⟨_,cap,rfl⟩
  obtain⟨A',c',rfl⟩:=H2;refine h A' c' w' ⟨xss++[cs],by simpa using hown',by simp[hl],?_,fun j hj=>?_⟩ hg
  ·intro he;by_cases hne:X=none
   ·exact hne
   ·obtain⟨b,hb⟩:=Option.ne_none_iff_exists'.1 hne;rw[hb]at he;rcases H0 b he with h | h
    ·exact hxx (h.trans hb.symm)
    ·have:=hXB b hb;omega
  ·by_cases hjl:j<l.length
   ·obtain⟨cs',e1,e2,e3⟩:=hel j hjl;refine⟨cs',by rw[List.getElem?_append_left (by omega)];exact e1,e2,?_⟩;rw[List.getElem_append_left hjl];refine hR _ _ _ _ (znZ fun g hgw hs=>?_) e3;obtain⟨p1,p2,p3⟩:=zxZ.1 hs;refine⟨zxZ.2 ⟨p1,p2,fun e=>?_⟩,hg.block g hgw p3⟩;rcases H0 g e.symm with h | h
    ·exact p3 h.symm
    ·omega
   ·obtain rfl:j=l.length:=(by simp at hj;omega);refine⟨cs,by rw[List.getElem?_append_right (by omega),hl,Nat.sub_self];rfl,hcs,?_⟩;rw[List.getElem_append_right (ybZ _)];simp only[Nat.sub_self,List.getElem_cons_zero];refine hR _ _ _ _ (znZ fun g hgw hs=>?_) hr;have hB:=zmZ.1 hs;refine⟨zxZ.2 ⟨by omega,fun e=>?_,fun e=>?_⟩,hg.block g hgw fun e=>?_⟩
    ·have:=hXB g e.symm;omega
    ·rcases H0 g e.symm with h | h
     ·have:=hgB g h;omega
     ·omega
    ·have:=hgB g e.symm;omega
section
variable {α:Type} (R:World->List Value->α->Prop) (e size M:Nat) (X:Option Nat) (wr:World) (v0:Value) (l:List α) (p:α) (bx j:Nat)
def PushI:Nat->World->Value->Prop
 | 0,w,_=>Below wr.heap.size wr w
 | 1,w,r=>∃A c W9,r=.slice A (l.length+1) c/\Below wr.heap.size wr W9/\Own R e size M X w r (l++[p])/\W9.grownBy w v0.ownBlock
 | _,w,r=>∃A c W9 w9,r=.slice A (l.length+1) c/\Below wr.heap.size wr W9/\Own R e size M X w9 r (l++[p])/\W9.grownBy w9 v0.ownBlock/\w=w9.setCell ⟨bx,j,none⟩ r
def PushM:World->Value->Nat->World->Value->Nat->Prop:=fun w r k w' r' k'=>k<=k'/\(k'=k->r'=r)/\(k'=0->Below w.heap.size w w')
def Early (P:Value->World->Prop):Value->World->Value->Nat->Prop:=fun x w _ k=>k=0->P x w
def TreeF (IsX:World->Value->α->Prop) (N:Nat) (p:α):Value->World->Value->Nat->Prop:=Early fun x w=>IsX (only w (since N)) x p
def BoxF (N:Nat) (p:α):Value->World->Value->Nat->Prop:=Early fun x w=>∃kb cf c,x=.slice (some ⟨kb,0,none⟩) 1 c/\w.heap[kb]? =some (.cells cf e (0,0))/\cf.toList.length=size/\(∀u∈cf.toList,u.oneCell'=true)/\R (only w (since N)) cf.toList p
end
theorem Early.stays {P:Value->World->Prop} (h:∀x w w',Below w.heap.size w w'->P x w->P x w'):Stays PushM (Early P):=fun x w r k w' r' k' hm hh hk=>h x w w' (hm.2.2 hk) (hh (by have:=hm.1;omega))
theorem TreeF.stays {α:Type} {IsX:World->Value->α->Prop} {N:Nat} {p:α} (hs:∀W W' x,Sub W W'->IsX W x p->IsX W' x p):Stays PushM (TreeF IsX N p):=Early.stays fun x w w' hb h=>hs _ _ _ (Sub.since_below hb) h
theorem BoxF.stays {α:Type} {R:World->List Value->α->Prop} {e size N:Nat} {p:α} (hR:∀W W' cs t,Sub W W'->R W cs t->R W' cs t):Stays PushM (BoxF R e size N p):=Early.stays fun x w w' hb h=>by
 obtain⟨kb,cf,c,h1,h2,h3,h4,h5⟩:=h;exact⟨kb,cf,c,h1,(hb.block kb (zaZ h2)).trans h2,h3,h4,hR _ _ _ _ (Sub.since_below hb) h5⟩
theorem AppF.staysP {j:Nat} : Stays PushM (AppF j):=fun x w r k w' r' k' hm h=>by
 obtain⟨h2,h3,-⟩:=hm;refine⟨by have:=h.1;omega,fun e=>?_⟩;have hk:k'=k:=by have:=h.1;omega
 rw[h3 hk];exact h.2 (by omega)
theorem PushM.refl {w:World} {r:Value} {k:Nat} : PushM w r k w r k:=⟨ybZ _,fun _=>rfl,fun _=>yqZ _ _⟩
theorem PushM.below {w w':World} {r:Value} {k:Nat} (h:Below w.heap.size w w'):PushM w r k w' r k:=⟨ybZ _,fun _=>rfl,fun _=>h⟩
section
variable {α:Type} {R:World->List Value->α->Prop} {e size M:Nat} {X:Option Nat} {wr:World} {v0:Value} {l:List α} {p:α} {bx j:Nat}
theorem PushI.early {w w':World} {r:Value} (h:PushI R e size M X wr v0 l p bx j 0 w r) (hb:Below w.heap.size w w'):PushI R e size M X wr v0 l p bx j 0 w' r:=Below.trans h (hb.mono h.size)
theorem PushI.block {k:Nat} {w:World} {r:Value} (h:PushI R e size M X wr v0 l p bx j k w r) {g:Nat} (hg:g<wr.heap.size) (h1:v0.ownBlock≠some g) (h2:k<2):w.heap[g]? =wr.heap[g]? /\wr.heap.size<=w.heap.size:=by
 match k,h,h2 with
 | 0,h,_=>have hb:Below wr.heap.size wr w:=h;exact⟨hb.block g hg,hb.size⟩
 | 1,h,_=>obtain⟨A,c,W9,-,hb,-,hgr⟩:=h;exact⟨(hgr.block g (yJZ hg hb.size) (fun e=>h1 e.symm)).trans (hb.block g hg),ymZ hb.size hgr.size⟩
theorem OpOk.push {P:Program} {ops:Array Oper} {Q:Exit->Act->World->Prop} {a:Act} {i i2:Nat} {o:Oper} {Fs:List (Value->World->Value->Nat->Prop)} (hR:∀W W' cs t,Sub W W'->R W cs t->R W' cs t) (s x:Operand) (t:TypeId)
  (hg:o.guard=none) (ho:o.op=.call { callee:=.builtin .append,args:=#[s,x],argTypes:=#[t,t] }) (hF:nth Fs i=AppF 0)
  (hown:Own R e size M X wr v0 l) {z:Value} {bytes:Nat} (ht:P.underlying t=some (.slice e)) (hi:(P.info? e).map (fun i=>(i.zero,i.size,i.bytes))=some (some z,size,bytes)) (hzs:z.cells.size=size) (hsz:0<size)
  (hM:M<=wr.heap.size) (hXB:∀b,X=some b->b<wr.heap.size) (hn:l.length+1<=1000000) (hby:bytes<=1000)
  (h:∀(ρ:Operand->Value) (u:Nat->Value) (L:Nat->Prop) (w:World) (r:Value) (k:Nat),
   (∀d j,slotAt ops.toList j=some d->ρ (.tmp d)=u j)->(∀d,(slots ops.toList).contains d=false->ρ (.tmp d)=a.eval (.tmp d))->
   (∀j,edge ops.toList i j=true->L j)->(∀j j',edge ops.toList j j'=true->L j->L j')->
   (∀j,L j->nth Fs j (u j) w r k)->k=0->ρ s=v0/\∃y,ρ x=y/\BoxF R e size wr.heap.size p y w r k):OpOk P Q ops a [i,i2] (PushI R e size M X wr v0 l p bx j) PushM (nth Fs) i o:=by
 intro ρ u L w r k h1 h2 h3 h4 h5 h6 h7 h8 h9 H2 H1 H0 K hK;obtain rfl:k=0:=by have:=H1 i 0 rfl;have H3:¬0<k:=fun hlt=>h8 (this.2 hlt);omega
 obtain⟨hs,y,hy,hbox⟩:=h ρ u L w r 0 h1 h2 h6 h7 h9 rfl;obtain⟨kb,cf,c,rfl,hkb,hcl,hone,hr⟩:=hbox rfl;rw[zceZ (by simp)]at hK;unfold guarded;rw[hg];have hb:Below wr.heap.size wr w:=H0;refine zwhZ hR s x t ho (hown.go hR hb) rfl ht hi hzs hsz hs rfl hy hkb hcl hone hr hM hb.size hXB (fun b hb'=>(hown.lt b hb').2) hn hby fun A' c' w' hown' hgr=>?_;refine hK.o _ w' (.slice A' (l.length+1) c') ⟨by omega,fun e=>by omega,fun e=>by omega⟩ ⟨A',c',w,rfl,hb,hown',hgr⟩ ?_;rw[hF];exact⟨ybZ _,fun _=>rfl⟩
theorem OpOk.pushStore {P:Program} {ops:Array Oper} {Q:Exit->Act->World->Prop} {a:Act} {i i2:Nat} {o:Oper} {Fs:List (Value->World->Value->Nat->Prop)} (hne:i≠i2) (hg:o.guard=none) (he:edge ops.toList i2 i=true) (hF1:nth Fs i=AppF 0) (hF:nth Fs i2=Early fun _ _=>True)
  (h:∀(ρ:Operand->Value) (u:Nat->Value) (L:Nat->Prop) (w:World) (r:Value),
   (∀d j,slotAt ops.toList j=some d->ρ (.tmp d)=u j)->(∀d,(slots ops.toList).contains d=false->ρ (.tmp d)=a.eval (.tmp d))->
   (∀j,edge ops.toList i2 j=true->L j)->(∀j,L j->nth Fs j (u j) w r 1)->u i=r->PushI R e size M X wr v0 l p bx j 1 w r->(∃A c,r=.slice A (l.length+1) c)->
   ∀K:Value->World->Prop,Hid (∀x,K x (w.setCell ⟨bx,j,none⟩ r))->opWp P o ρ w K):OpOk P Q ops a [i,i2] (PushI R e size M X wr v0 l p bx j) PushM (nth Fs) i2 o:=by
 intro ρ u L w r k h1 h2 h3 h4 h5 h6 h7 h8 h9 H4 H1 H0 K hK;have H3:=H1 i 0 rfl;have H2:=H1 i2 1 rfl;have hLi:=h6 i he;obtain rfl:k=1:=by have a1:=H3.1 hLi;have a2:¬1<k:=fun hlt=>h8 (H2.2 hlt);omega
 have ha:=h9 i hLi;rw[hF1]at ha;obtain⟨A,c,W9,hr,hb,hown,hgr⟩:=id H0;rw[zceZ (by simp)]at hK;unfold guarded;rw[hg];refine h ρ u L w r h1 h2 h6 h9 (ha.2 rfl).symm H0 ⟨A,c,hr⟩ K (zh fun x=>?_);refine hK.o x _ r ⟨by omega,fun e=>by omega,fun e=>by omega⟩ ⟨A,c,W9,w,hr,hb,hown,hgr,rfl⟩ ?_;rw[hF];exact fun _=>trivial
end
end Go.Proofs.YtdncljdfmdgdaaaGreatDoor
namespace Go.Proofs.YtdncljdfmdgdaaaGreatDoor
open Go.RowKit Go.Shelf
attribute [local go_sem] opWp zoZ zvZ zpZ
theorem PushM.rf (w:World) (r:Value) (k:Nat):PushM w r k w r k:=PushM.refl
theorem zcsZ {w:World} {g t:Nat} {cs:Array Value} (h:w.heap[g]? =some (.cells cs t (0,0))):w.frozen? ⟨g,0,none⟩=false/\w.frozen? ⟨g,1,none⟩=false/\w.frozen? ⟨g,2,none⟩=false/\w.frozen? ⟨g,3,none⟩=false/\w.frozen? ⟨g,4,none⟩=false/\w.frozen? ⟨g,5,none⟩=false/\w.frozen? ⟨g,6,none⟩=false:=
 ⟨zsZ h 0,zsZ h 1,zsZ h 2,zsZ h 3,zsZ h 4,zsZ h 5,zsZ h 6⟩
theorem zehZ (l:List (Value->World->Value->Nat->Prop)) (hs:AllStay PushM l):∃F,Nths F 0 l/\AllStay PushM F:=⟨l,zcgZ rfl,hs⟩
section
variable {α:Type} {R:World->List Value->α->Prop} {e size M:Nat} {X:Option Nat} {wr:World} {v0:Value} {l:List α} {p:α} {bx j:Nat}
theorem PushI.low {B k:Nat} {W w:World} {r:Value} (h:PushI R e size M X wr v0 l p bx j k w r) (hB:B<=wr.heap.size) (hx:B<=bx) (hv:∀b,v0.ownBlock=some b->B<=b) (hW:Below B W wr):Below B W w:=by
 have grow:∀ {W9 w9:World},Below wr.heap.size wr W9->W9.grownBy w9 v0.ownBlock->Below B W w9:=fun {W9 w9} hb hg=>by have h9:=hW.trans (hb.mono hB);exact⟨hg.os.trans h9.os,hg.tape.trans h9.tape,hg.output.trans h9.output,ymZ h9.size hg.size,fun q hq=>(hg.block q (by have:=hb.size;omega) fun e=>by have:=hv q e.symm;omega).trans (h9.block q hq)⟩
 match k,h with
 | 0,h=>exact hW.trans (Below.mono h hB)
 | 1,h=>obtain⟨A,c,W9,-,hb,-,hgr⟩:=h;exact grow hb hgr
 | k+2,h=>obtain⟨A,c,W9,w9,-,hb,-,hgr,rfl⟩:=h;exact(grow hb hgr).setCell hx _
theorem PushI.lt {k:Nat} {w:World} {r:Value} (h:PushI R e size M X wr v0 l p bx j k w r) (hx:bx<wr.heap.size):bx<w.heap.size:=by
 match k,h with
 | 0,h=>exact yJZ hx (show Below _ _ _ from h).size
 | 1,h=>obtain⟨A,c,W9,-,hb,-,hgr⟩:=h;exact yJZ hx (ymZ hb.size hgr.size)
 | k+2,h=>obtain⟨A,c,W9,w9,-,hb,-,hgr,rfl⟩:=h;simp[World.setCell];exact yJZ hx (ymZ hb.size hgr.size)
variable {P:Program} {ops:Array Oper} {Q:Exit->Act->World->Prop} {a:Act} {i ip i2 d q T:Nat} {o:Oper} {Fs:List (Value->World->Value->Nat->Prop)} {u v:Value} {cs:Array Value} {IsX:World->Value->α->Prop}
def ahead (ops:List Oper) (ip i:Nat) (l:List Nat):Bool:=pathOk ops (ip::l)&&((ip::l).getLast? ==some i)
theorem OpOk.val0 (ps:List Nat) (hp:ahead ops.toList ip i ps=true) (hi:[ip,i2].contains i=false) (hg:o.guard=none) (hF:nth Fs i=IsF v)
  (h:∀(ρ:Operand->Value) (w:World) (r:Value),Ev ops.toList a Fs i ρ w r 0->Below wr.heap.size wr w->∀K:Value->World->Prop,K v w->opWp P o ρ w K):OpOk P Q ops a [ip,i2] (PushI R e size M X wr v0 l p bx j) PushM (nth Fs) i o:=
 OpOk.plain hi hg fun ρ u L w r k h1 h2 h3 h4 h5 h6 h7 h8 h9 h10 h11 h12 K hK=>by
  obtain rfl:k=0:=by
   cases k with
   | zero=>rfl
   | succ k=>unfold ahead at hp;simp only[ygZ,ytZ]at hp;exact absurd (zetZ h7 ps ip i hp.1 hp.2 ((h11 ip 0 rfl).2 (yVZ k))) h8
  exact h ρ w r (Ev.mk' h1 h2 h3 h4 h5 h6 h7 h8 h9 h10) h12 K (hK.o v w r PushM.refl h12 (zboZ hF rfl))
theorem OpOk.pf (fl:Fl P T) (hx:bx<wr.heap.size) {j2:Nat} (hF:nth Fs i=IsF (.pointer (some ⟨bx,j2,none⟩))) (hd:Rd ops.toList a Fs i true d (.pointer (some ⟨bx,0,none⟩))) (ho:o.op=.fieldAddr T (.tmp d) j2:=by rfl) (hj:decide (j2<=6)=true:=by rfl) (hi:[ip,i2].contains i=false:=by rfl) (hg:o.guard=none:=by rfl) :
  OpOk P Q ops a [ip,i2] (PushI R e size M X wr v0 l p bx j) PushM (nth Fs) i o:=
 OpOk.val hi hg hF PushM.rf fun ρ w r k E hI K hK=>fl ho (yBZ hj) (hd ρ w r k E rfl) (hI.lt hx) hK
theorem OpOk.pl {ts:List TypeId} (ld:Ld P ts) {j2:Nat} {T2:TypeId} (ps:List Nat) (hb:wr.heap[bx]? =some (.cells cs T (0,0))) (hF:nth Fs i=IsF v) (hd:Rd ops.toList a Fs i true d (.pointer (some ⟨bx,j2,none⟩))) (hp:ahead ops.toList ip i ps=true:=by kernel_rfl)
  (ho:o.op=.load T2 (.tmp d):=by rfl) (hT:ts.contains T2=true:=by rfl) (hc:cs[j2]? =some v:=by rfl) (hi:[ip,i2].contains i=false:=by rfl) (hg:o.guard=none:=by rfl) :
  OpOk P Q ops a [ip,i2] (PushI R e size M X wr v0 l p bx j) PushM (nth Fs) i o:=
 OpOk.val0 ps hp hi hg hF fun ρ w r E h0 K hK=>ld ho hT (hd ρ w r 0 E rfl) ((zdZ ((h0.block bx (zaZ hb)).trans hb) j2).trans hc) hK
theorem OpOk.pc {fn:Func} {c:Code} {f:FuncId} {ats:Array TypeId} (ps:List Nat) (hF:nth Fs i=TreeF IsX wr.heap.size p) (isub:∀W W2 x,Sub W W2->IsX W x p->IsX W2 x p) (hf:P.funcs[f]? =some fn) (hd:Rd ops.toList a Fs i true d u)
  (h:∀w,Below wr.heap.size wr w->Calls P f #[u] w fun e w'=>∃v,e=.returned v/\IsX (only w' (since w.heap.size)) v p/\Below w.heap.size w w') (hp:ahead ops.toList ip i ps=true:=by kernel_rfl)
  (ho:o.op=.call { callee:=.value (.func f),args:=#[.tmp d],argTypes:=ats } :=by rfl) (hname:(fn.name== "runtime.NumGoroutine")=false:=by kernel_rfl) (hb:fn.body=some c:=by rfl) (hi:[ip,i2].contains i=false:=by rfl) (hg:o.guard=none:=by rfl) :
  OpOk P Q ops a [ip,i2] (PushI R e size M X wr v0 l p bx j) PushM (nth Fs) i o:=
 OpOk.plain hi hg fun ρ u L w r k h1 h2 h3 h4 h5 h6 h7 h8 h9 h10 h11 h12 K hK=>by
  obtain rfl:k=0:=by
   cases k with
   | zero=>rfl
   | succ k=>unfold ahead at hp;simp only[ygZ,ytZ]at hp;exact absurd (zetZ h7 ps ip i hp.1 hp.2 ((h11 ip 0 rfl).2 (yVZ k))) h8
  have H0:Below wr.heap.size wr w:=h12;refine zcpZ ho hf hname hb (h5 f) (by rw[yIZ,yPZ,yRZ,hd ρ w r 0 (Ev.mk' h1 h2 h3 h4 h5 h6 h7 h8 h9 h10) rfl]) ((h w H0).mono fun x w' ⟨v,he,ht,hb5⟩=>⟨v,he,hK.o v w' r (PushM.below hb5) (PushI.early h12 hb5) (zboZ hF fun _=>isub _ _ _ (Sub.since_mono H0.size) ht)⟩)
theorem OpOk.pb (ps:List Nat) (hR:∀W W' cs t,Sub W W'->R W cs t->R W' cs t) (hF:nth Fs i=BoxF R e size wr.heap.size p) (hq:nth Fs q=TreeF IsX wr.heap.size p) (d:Nat)
  (hrd:∀W v,IsX W v p->∃cs:Array Value,v=.agg cs/\cs.toList.length=size/\(∀u∈cs.toList,u.oneCell'=true)/\R W cs.toList p)
  (h:∀(ρ:Operand->Value) (w:World) (K:Value->World->Prop) (cs:Array Value),ρ (.tmp d)=.agg cs->cs.size=size->K (.slice (some ⟨w.heap.size,0,none⟩) 1 1) (w.alloc (.cells cs e))->opWp P o ρ w K)
  (hp:ahead ops.toList ip i ps=true:=by kernel_rfl) (hr:reads ops.toList i d q=true:=by kernel_rfl) (hi:[ip,i2].contains i=false:=by rfl) (hg:o.guard=none:=by rfl) :
  OpOk P Q ops a [ip,i2] (PushI R e size M X wr v0 l p bx j) PushM (nth Fs) i o:=
 OpOk.plain hi hg fun ρ u L w r k h1 h2 h3 h4 h5 h6 h7 h8 h9 h10 h11 h12 K hK=>by
  obtain rfl:k=0:=by
   cases k with
   | zero=>rfl
   | succ k=>unfold ahead at hp;simp only[ygZ,ytZ]at hp;exact absurd (zetZ h7 ps ip i hp.1 hp.2 ((h11 ip 0 rfl).2 (yVZ k))) h8
  have E:=Ev.mk' (Fs:=Fs) h1 h2 h3 h4 h5 h6 h7 h8 h9 h10;obtain⟨cs,e1,e2,e3,e4⟩:=hrd _ _ (E.x d q hr hq rfl);refine h ρ w K cs e1 (by rw[<-Array.length_toList];exact e2) (hK.o _ _ r (PushM.below ((yqZ _ _).alloc (ybZ _) _)) (PushI.early h12 ((yqZ _ _).alloc (ybZ _) _)) (zboZ hF fun _=>⟨_,_,_,rfl,ydZ w _,e2,e3,hR _ _ _ _ (Sub.since_below ((yqZ _ _).alloc (ybZ _) _)) e4⟩))
theorem OpOk.pp (hR:∀W W' cs t,Sub W W'->R W cs t->R W' cs t) (s x:Nat) {q0 q1:Nat} {t:TypeId} (hF:nth Fs i=AppF 0) (hq0:nth Fs q0=IsF v0) (hq:nth Fs q1=BoxF R e size wr.heap.size p) (hown:Own R e size M none wr v0 l) {z:Value} {bytes:Nat} (ht:P.underlying t=some (.slice e)) (hi:(P.info? e).map (fun i=>(i.zero,i.size,i.bytes))=some (some z,size,bytes)) (hM:M<=wr.heap.size) (hn:l.length+1<=1000000)
  (hr0:reads ops.toList i s q0=true:=by kernel_rfl) (hr:reads ops.toList i x q1=true:=by kernel_rfl) (ho:o.op=.call { callee:=.builtin .append,args:=#[.tmp s,.tmp x],argTypes:=#[t,t] } :=by rfl) (hby:bytes<=1000:=by omega) (hzs:z.cells.size=size:=by rfl) (hsz:0<size:=by decide) (hg:o.guard=none:=by rfl) :
  OpOk P Q ops a [i,i2] (PushI R e size M none wr v0 l p bx j) PushM (nth Fs) i o:=by
 unfold reads at hr hr0;simp only[ygZ,ytZ]at hr hr0;exact OpOk.push hR (.tmp s) (.tmp x) t hg ho hF hown ht hi hzs hsz hM (fun b e=>nomatch e) hn hby fun ρ u L w r k hs hs0 hL hC hf hk=>
  ⟨(hs s q0 hr0.1).trans (zbqZ hq0 (hf q0 (hL q0 hr0.2))),_,hs x q1 hr.1,zbqZ hq (hf q1 (hL q1 hr.2))⟩
theorem OpOk.ps {T2:TypeId} (st:∀ {o:Oper} {ρ:Operand->Value} {w:World} {K:Value->World->Prop} {x y:Operand} {g j n c:Nat} {A:Option Addr} {cs:Array Value} {z:Value},o.op=.store T2 x y->ρ x=.pointer (some ⟨g,j,none⟩)->ρ y=.slice A n c->w.heap[g]? =some (.cells cs T (0,0))->cs[j]? =some z->(∀v,K v (w.setCell ⟨g,j,none⟩ (.slice A n c)))->opWp P o ρ w K)
  (hx:bx<wr.heap.size) (hv:v0.ownBlock≠some bx) (hb:wr.heap[bx]? =some (.cells cs T (0,0))) {z:Value} (hc:cs[j]? =some z) (hF1:nth Fs i=AppF 0) (hF:nth Fs i2=Early fun _ _=>True) (hq:nth Fs q=IsF (.pointer (some ⟨bx,j,none⟩)))
  (d1 d2:Nat) (hr:reads ops.toList i2 d1 q=true:=by kernel_rfl) (hr2:reads ops.toList i2 d2 i=true:=by kernel_rfl) (ho:o.op=.store T2 (.tmp d1) (.tmp d2):=by rfl) (hne:i≠i2:=by decide) (hg:o.guard=none:=by rfl):OpOk P Q ops a [i,i2] (PushI R e size M X wr v0 l p bx j) PushM (nth Fs) i2 o:=by
 unfold reads at hr hr2;simp only[ygZ,ytZ]at hr hr2;refine OpOk.pushStore hne hg hr2.2 hF1 hF fun ρ u L w r hs hs0 hL hf hu hI hA K hK=>?_;obtain⟨A,c,rfl⟩:=hA;exact st ho ((hs d1 q hr.1).trans (zbqZ hq (hf q (hL q hr.2)))) ((hs d2 i hr2.1).trans hu) ((PushI.block hI hx hv (by decide)).1.trans hb) hc fun v=>hK.o v
end
/-! ### for this program's types -/
theorem stTX {o:Oper} {ρ:Operand->Value} {w:World} {K:Value->World->Prop} {x y:Operand} {g j n c T:Nat} {A:Option Addr} {cs:Array Value} {z:Value} (ho:o.op=.store 24 x y\/o.op=.store 37 x y) (hx:ρ x=.pointer (some ⟨g,j,none⟩)) (hy:ρ y=.slice A n c) (hw:w.heap[g]? =some (.cells cs T (0,0))) (hc:cs[j]? =some z)
  (h:∀v,K v (w.setCell ⟨g,j,none⟩ (.slice A n c))):opWp Tryz.prog o ρ w K:=by
 have H0:=(zdZ hw j).trans hc;have H2:=zsZ hw j;have H1:=zaZ hw
 cases o with
 | mk dst op type pos after guard=>rcases ho with ho | ho <;> subst ho <;> go_simp <;> exact h _
theorem bsT {o:Oper} {ρ:Operand->Value} {w:World} {K:Value->World->Prop} {d:Nat} {cs:Array Value} (ho:o.op=.buildSlice 24 1 #[(0,.tmp d)]) (hd:ρ (.tmp d)=.agg cs) (hc:cs.size=5) (h:K (.slice (some ⟨w.heap.size,0,none⟩) 1 1) (w.alloc (.cells cs 26))):opWp Tryz.prog o ρ w K:=by
 obtain⟨l⟩:=cs
 match l,hc with
 | [z0,z1,z2,z3,z4],_=>
  cases o with
  | mk dst op type pos after guard=>subst ho;go_simp;exact h
theorem bsE {o:Oper} {ρ:Operand->Value} {w:World} {K:Value->World->Prop} {d:Nat} {cs:Array Value} (ho:o.op=.buildSlice 37 1 #[(0,.tmp d)]) (hd:ρ (.tmp d)=.agg cs) (hc:cs.size=7) (h:K (.slice (some ⟨w.heap.size,0,none⟩) 1 1) (w.alloc (.cells cs 39))):opWp Tryz.prog o ρ w K:=by
 obtain⟨l⟩:=cs
 match l,hc with
 | [z0,z1,z2,z3,z4,z5,z6],_=>
  cases o with
  | mk dst op type pos after guard=>subst ho;go_simp;exact h
theorem rdT {p:Sx.Ty} (W:World) (v:Value) (h:IsTy W v p):∃cs:Array Value,v=.agg cs/\cs.toList.length=5/\(∀u∈cs.toList,u.oneCell'=true)/\RTy W cs.toList p:=by
 obtain⟨B1,d1,B2,d2,B3,d3,rfl,-⟩:=IsTy.agg h;exact⟨_,rfl,rfl,by simp[Value.oneCell'],_,_,_,_,_,rfl,h⟩
theorem rdE {p:Sx.Ex} (W:World) (v:Value) (h:IsEx W v p):∃cs:Array Value,v=.agg cs/\cs.toList.length=7/\(∀u∈cs.toList,u.oneCell'=true)/\REx W cs.toList p:=by
 obtain⟨B1,d1,B2,d2,B3,d3,rfl,-⟩:=IsEx.agg h;exact⟨_,rfl,rfl,by simp[Value.oneCell'],_,_,_,_,_,_,_,rfl,h⟩
structure OwnEx (L:Nat) (W:World) (c0 c1 c2:Array Value) (w:World):Prop where
 b:Below L W w
 k0:w.heap[L]? =some (.cells c0 39 (0,0))
 k1:w.heap[L+1]? =some (.cells c1 39 (0,0))
 k2:w.heap[L+1+1]? =some (.cells c2 39 (0,0))
theorem OwnEx.go {L:Nat} {W w w':World} {c0 c1 c2:Array Value} (h:OwnEx L W c0 c1 c2 w) (hb:Below w.heap.size w w'):OwnEx L W c0 c1 c2 w':=
 have hl:=zaZ h.k2
 ⟨h.b.trans (hb.mono (by omega)),(hb.block _ (by omega)).trans h.k0,(hb.block _ (by omega)).trans h.k1,(hb.block _ hl).trans h.k2⟩
theorem OwnEx.grown {L:Nat} {W w w':World} {c0 c1 c2:Array Value} (h:OwnEx L W c0 c1 c2 w) {r:Option Nat} (hg:w.grownBy w' r) (hr:∀j,r=some j->L+1+1+1<=j):OwnEx L W c0 c1 c2 w':=
 have hl:=zaZ h.k2
 ⟨h.b.grown hg (by omega) (fun j e=>by have:=hr j e;omega),(hg.block _ (by omega) (fun e=>by have:=hr _ e.symm;omega)).trans h.k0,(hg.block _ (by omega) (fun e=>by have:=hr _ e.symm;omega)).trans h.k1,(hg.block _ hl (fun e=>by have:=hr _ e.symm;omega)).trans h.k2⟩
theorem OwnEx.set {L:Nat} {W w:World} {c0 c1 c2:Array Value} (h:OwnEx L W c0 c1 c2 w) (j:Nat) (v:Value):OwnEx L W c0 c1 (c2.setIfInBounds j v) (w.setCell ⟨L+1+1,j,none⟩ v):=
 ⟨h.b.setCell (by simp;omega) v,(yuZ _ _ _ _ (by simp;omega)).trans h.k0,(yuZ _ _ _ _ (by simp)).trans h.k1,yMZ _ _ _ _ _ _ h.k2⟩
theorem OwnEx.lt {L:Nat} {W w:World} {c0 c1 c2:Array Value} (h:OwnEx L W c0 c1 c2 w):L<w.heap.size/\L+1<w.heap.size/\L+1+1<w.heap.size:=⟨zaZ h.k0,zaZ h.k1,zaZ h.k2⟩
theorem OwnEx.push {α:Type} {R:World->List Value->α->Prop} (hR:∀W W' cs t,Sub W W'->R W cs t->R W' cs t) {L M e size j:Nat} {W wr w7 W9 w9:World} {c0 c1 c2:Array Value} {v0 v9:Value} {l:List α} (hs:OwnEx L W c0 c1 c2 wr)
  (hq:∀gg,L+1+1+1<=gg->gg<M->wr.heap[gg]? =w7.heap[gg]?) (hrl:∀b,v0.ownBlock=some b->M<=b/\b<wr.heap.size) (hM:L+1+1+1<=M) (hMw:M<=wr.heap.size) (hb:Below wr.heap.size wr W9) (hown:Own R e size M none w9 v9 l) (hgr:W9.grownBy w9 v0.ownBlock) :
  OwnEx L W c0 c1 (c2.setIfInBounds j v9) (w9.setCell ⟨L+1+1,j,none⟩ v9)/\(∀gg,L+1+1+1<=gg->gg<M->(w9.setCell ⟨L+1+1,j,none⟩ v9).heap[gg]? =w7.heap[gg]?)/\Own R e size M none (w9.setCell ⟨L+1+1,j,none⟩ v9) v9 l/\M<=(w9.setCell ⟨L+1+1,j,none⟩ v9).heap.size:=by
 have H1:=(hs.go hb).grown hgr (fun j e=>by have:=(hrl j e).1;omega);have H0:∀gg,gg≠L+1+1->(w9.setCell ⟨L+1+1,j,none⟩ v9).heap[gg]? =w9.heap[gg]? :=fun gg h=>yuZ _ _ _ _ h;refine⟨H1.set j _,fun gg h1 h2=>?_,?_,?_⟩
 ·rw[H0 gg (by omega),hgr.block gg (by have:=hb.size;omega) (fun e=>by have:=(hrl gg e.symm).1;omega),hb.block gg (by omega)];exact hq gg h1 h2
 ·exact hown.keep hR fun gg _ h _=>H0 gg (by omega)
 ·have:=hb.size;have:=hgr.size;simp[World.setCell];omega
theorem Sub.since_set2 {L j:Nat} {w:World} {v:Value} : Sub (only w (since (L+1+1+1))) (only (w.setCell ⟨L+1+1,j,none⟩ v) (since (L+1+1+1))):=Sub.since_keep fun g _ hB=>yuZ _ _ _ _ (by simp;omega)
theorem zrkZ:(Tryz.prog.info? 39).map (fun i=>(i.zero,i.size,i.bytes))=some (some (.agg #[.int .i64 0,.int .i64 0,.int .i64 0,.string ⟨#[]⟩,.slice none 0 0,.slice none 0 0,.slice none 0 0]),7,112):=by kernel_rfl
theorem IsEx.made2 {w:World} {pos k n:Int} {s:Lx.Bytes} {vt vn vp:Value} {t:List Sx.Ty} {ns:List Lx.Bytes} {ps:List Sx.Ex} (h1:TyRow w vt t) (h2:StrRow w vn ns) (h3:ExRow w vp ps) (hn0:-9223372036854775808<=n) (hn1:n<=9223372036854775807) :
  IsEx w (.agg #[.int .i64 pos,.int .i64 k,.int .i64 n,.string ⟨s.toArray⟩,vt,vn,vp]) (.mk pos k n s t ns ps):=by
 obtain⟨A,c,rfl,hc,hl⟩:=h3;rw[IsEx];exact⟨vt,vn,A,c,rfl,h1,h2,hc,hl,hn0,hn1⟩
theorem Own.tys_since {e L:Nat} {w:World} {v:Value} {l:List Sx.Ty} (h:Own RTy e 5 L none w v l):TyRow (only w (since L)) v l:=h.tys.sub (znZ fun g hg hs=>⟨zmZ.2 (zxZ.1 hs).1,rfl⟩)
theorem Own.exs_since {e L:Nat} {w:World} {v:Value} {l:List Sx.Ex} (h:Own REx e 7 L none w v l):ExRow (only w (since L)) v l:=h.exs.sub (znZ fun g hg hs=>⟨zmZ.2 (zxZ.1 hs).1,rfl⟩)
def OwnXOk (x:Sx.Ex):Prop:=∀(v:Value) (W:World),IsEx W v x->
 Calls Tryz.prog 32 #[v] W fun e W'=>∃v',e=.returned v'/\IsEx (only W' (since W.heap.size)) v' x/\Below W.heap.size W W'
theorem zrlZ (x:Sx.Ex) (hsz:Sx.sizeX x<=1000000) (ih:∀p∈x.parts,OwnXOk p):OwnXOk x:=by
 intro v W ht;obtain⟨At,ct,An,cn,Ap,cp,rfl,htt,hnm,hp,Hr,Hk⟩:=ht.agg;have Hu:=Sx.sizeX_parts x;have Hz:=Sx.length_sizeXs x.parts;have Hw:=Sx.length_size x.t;obtain⟨nl,hnl⟩:=zE (x.names.length);obtain⟨tl,htl⟩:=zE (x.t.length);obtain⟨k,hk⟩:=zE (x.parts.length);obtain⟨ps,hps⟩:=zE (x.pos);obtain⟨kd,hkd⟩:=zE (x.kind);obtain⟨nn,hnn⟩:=zE (x.n);obtain⟨nm,hnmm⟩:=zE (x.s);rw[hnl]at hnm Hu;rw[htl]at htt Hw;rw[hk]at hp Hz;rw[hnn]at Hr Hk;rw[hps,hkd,hnn,hnmm,hnl,htl,hk];have n1:nl<=1000000:=by omega
 have k0:(0:Int)<=(k:Int):=by omega
 have k1:(k:Int)<=1000000:=by omega
 have t0:(0:Int)<=(tl:Int):=by omega
 have t1:(tl:Int)<=1000000:=by omega
 obtain⟨L,hL⟩:=zE (W.heap.size);have Jj:=zh hnm;have HT:=zh htt;have HP:=zh hp;have Jd:=zh ih;have HK:=zh hk;have Hy:=zh htl;have Hv:=zh (show k<=1000000/\tl<=1000000 by omega);have HL:=zh hL;have J9:=zh (show ∀p∈x.t,Sx.size p<=1000000 from fun p hp=>by have:=Sx.size_mem hp;omega);have Hb:=zh (And.intro Hr Hk);have Jf:=zh (show x=.mk ps kd nn nm x.t x.names x.parts by cases x;subst hps hkd hnn hnmm;rfl);clear hnm hp htt ih hk htl hps hkd hnn hnmm hnl Hu Hz Hw hsz ht Hr Hk;go_enter Tryz.func32, Tryz.ntmps32;go_upto_region 2 with(fail);obtain⟨w3,hw3⟩:=zE ((((W.alloc (.cells #[.int .i64 ps,.int .i64 kd,.int .i64 nn,.string ⟨nm.toArray⟩,.slice At tl ct,.slice An nl cn,.slice Ap k cp] 39)).alloc (.cells #[.int .i64 0,.int .i64 0,.int .i64 0,.string ⟨#[]⟩,.slice none 0 0,.slice none 0 0,.slice none 0 0] 39)).alloc (.cells #[.int .i64 0,.int .i64 kd,.int .i64 nn,.string ⟨nm.toArray⟩,.slice none 0 0,.slice none 0 0,.slice none 0 0] 39)));rw[hw3];have J1:OwnEx L W #[.int .i64 ps,.int .i64 kd,.int .i64 nn,.string ⟨nm.toArray⟩,.slice At tl ct,.slice An nl cn,.slice Ap k cp] #[.int .i64 0,.int .i64 0,.int .i64 0,.string ⟨#[]⟩,.slice none 0 0,.slice none 0 0,.slice none 0 0] #[.int .i64 0,.int .i64 kd,.int .i64 nn,.string ⟨nm.toArray⟩,.slice none 0 0,.slice none 0 0,.slice none 0 0] w3:=by
  subst hL;refine⟨?_,?_,?_,?_⟩
  ·rw[<-hw3];exact(((yqZ _ W).alloc (ybZ _) _).alloc (by simp) _).alloc (by simp;omega) _
  ·rw[<-hw3];exact heap_alloc (heap_alloc (ydZ W _) _) _
  ·rw[<-hw3];have:=ydZ (W.alloc (.cells #[.int .i64 ps,.int .i64 kd,.int .i64 nn,.string ⟨nm.toArray⟩,.slice At tl ct,.slice An nl cn,.slice Ap k cp] 39)) (.cells #[.int .i64 0,.int .i64 0,.int .i64 0,.string ⟨#[]⟩,.slice none 0 0,.slice none 0 0,.slice none 0 0] 39);rw[show(W.alloc (.cells #[.int .i64 ps,.int .i64 kd,.int .i64 nn,.string ⟨nm.toArray⟩,.slice At tl ct,.slice An nl cn,.slice Ap k cp] 39)).heap.size=W.heap.size+1 by simp]at this;exact heap_alloc this _
  ·rw[<-hw3];have:=ydZ ((W.alloc (.cells #[.int .i64 ps,.int .i64 kd,.int .i64 nn,.string ⟨nm.toArray⟩,.slice At tl ct,.slice An nl cn,.slice Ap k cp] 39)).alloc (.cells #[.int .i64 0,.int .i64 0,.int .i64 0,.string ⟨#[]⟩,.slice none 0 0,.slice none 0 0,.slice none 0 0] 39)) (.cells #[.int .i64 0,.int .i64 kd,.int .i64 nn,.string ⟨nm.toArray⟩,.slice none 0 0,.slice none 0 0,.slice none 0 0] 39);rw[show((W.alloc (.cells #[.int .i64 ps,.int .i64 kd,.int .i64 nn,.string ⟨nm.toArray⟩,.slice At tl ct,.slice An nl cn,.slice Ap k cp] 39)).alloc (.cells #[.int .i64 0,.int .i64 0,.int .i64 0,.string ⟨#[]⟩,.slice none 0 0,.slice none 0 0,.slice none 0 0] 39)).heap.size=W.heap.size+1+1 by simp]at this;exact this
 have He:w3.heap.size=L+1+1+1:=by rw[<-hw3,<-hL];simp
 have Hi:=zh J1;have Ja:=zh He;clear hw3 J1 He;obtain⟨x0,x1,x2,x3,x4,x5,x6⟩:=zbZ Hi.o.k0;obtain⟨f0,f1,f2,f3,f4,f5,f6⟩:=zcsZ Hi.o.k2;obtain⟨y0,y1,y2,y3,y4,y5,y6⟩:=zbZ Hi.o.k2;obtain⟨l1,l2,l3⟩:=Hi.o.lt;go_upto_region 3 with fail
 obtain⟨w4,hw4⟩:=zE (w3.setCell ⟨L+1+1,0,none⟩ (.int .i64 ps));rw[hw4];have Hn:=Hi.o.set 0 (.int .i64 ps);rw[hw4]at Hn;have HS:=zh (show OwnEx L W #[.int .i64 ps,.int .i64 kd,.int .i64 nn,.string ⟨nm.toArray⟩,.slice At tl ct,.slice An nl cn,.slice Ap k cp] #[.int .i64 0,.int .i64 0,.int .i64 0,.string ⟨#[]⟩,.slice none 0 0,.slice none 0 0,.slice none 0 0] #[.int .i64 ps,.int .i64 kd,.int .i64 nn,.string ⟨nm.toArray⟩,.slice none 0 0,.slice none 0 0,.slice none 0 0] w4 from Hn);have Hg:=zh (show w4.heap.size=L+1+1+1 by rw[<-hw4];simp[World.setCell];exact Ja.o);clear hw4 Hn x0 x1 x2 x3 x4 x5 x6 y0 y1 y2 y3 y4 y5 y6 f0 f1 f2 f3 f4 f5 f6 l1 l2 l3;obtain⟨x0,x1,x2,x3,x4,x5,x6⟩:=zbZ HS.o.k0;obtain⟨y0,y1,y2,y3,y4,y5,y6⟩:=zbZ HS.o.k2;obtain⟨l1,l2,l3⟩:=HS.o.lt
 go_upto_region 4 with(first
  | (at_builtin;refine zdfZ rfl _ _ rfl rfl rfl (Jj.o.below (by rw[HL.o];exact HS.o.b)) n1 ?_;intro AN cN w5 Hq Ho;have Hf:=HS.o.go Ho;obtain⟨m1,m2,m3⟩:=Hf.lt;obtain⟨f0,f1,f2,f3,f4,f5,f6⟩:=zcsZ Hf.k2;obtain⟨q0,q1,q2,q3,q4,q5,q6⟩:=zbZ Hf.k2))
 obtain⟨w7,hw7⟩:=zE (w5.setCell ⟨L+1+1,5,none⟩ (.slice AN nl cN));rw[hw7];have Hc:=Hf.set 5 (.slice AN nl cN);rw[hw7]at Hc;have Hx:StrRow (only w7 (since (L+1+1+1))) (.slice AN nl cN) x.names:=by rw[Hg.o]at Hq;rw[<-hw7];exact Hq.sub Sub.since_set2
 have J0:L+1+1+1<=w7.heap.size:=by have:=Ho.size;have:=Hg.o;rw[<-hw7];simp[World.setCell];omega
 have Jh:=zh (show OwnEx L W #[.int .i64 ps,.int .i64 kd,.int .i64 nn,.string ⟨nm.toArray⟩,.slice At tl ct,.slice An nl cn,.slice Ap k cp] #[.int .i64 0,.int .i64 0,.int .i64 0,.string ⟨#[]⟩,.slice none 0 0,.slice none 0 0,.slice none 0 0] #[.int .i64 ps,.int .i64 kd,.int .i64 nn,.string ⟨nm.toArray⟩,.slice none 0 0,.slice AN nl cN,.slice none 0 0] w7 from Hc);have J5:=zh Hx;clear Hf Hc Hq Hx Ho hw7 f0 f1 f2 f3 f4 f5 f6 q0 q1 q2 q3 q4 q5 q6 m1 m2 m3 x0 x1 x2 x3 x4 x5 x6 y0 y1 y2 y3 y4 y5 y6 l1 l2 l3;go_wp2_with fail;obtain⟨M,hM⟩:=zE (w7.heap.size);have HM:=zh hM;rw[hM]at J0;have Hj:=zh J0;clear hM
 go_loopg [4] tl (fun i v wr=>∃(m:Nat) (A:Option Addr) (c:Nat),i=tl-m/\v=.int .i64 (m:Nat)/\m<=tl/\OwnEx L W #[.int .i64 ps,.int .i64 kd,.int .i64 nn,.string ⟨nm.toArray⟩,.slice At tl ct,.slice An nl cn,.slice Ap k cp] #[.int .i64 0,.int .i64 0,.int .i64 0,.string ⟨#[]⟩,.slice none 0 0,.slice none 0 0,.slice none 0 0] #[.int .i64 ps,.int .i64 kd,.int .i64 nn,.string ⟨nm.toArray⟩,.slice A m c,.slice AN nl cN,.slice none 0 0] wr/\
   (∀gg,L+1+1+1<=gg->gg<M->wr.heap[gg]? =w7.heap[gg]?)/\Own RTy 26 5 M none wr (.slice A m c) (x.t.take m)/\M<=wr.heap.size)
 case atStart=>exact⟨0,none,0,rfl,rfl,yxZ _,Jh.o,fun _ _ _=>rfl,Own.nil,Nat.le_of_eq HM.o.symm⟩
 case round=>
  obtain⟨m,A,c,hi,rfl,hm,hs,hq,ho,hz⟩:=hrel;have HI:=zh hi;have H0:=zh hs;have H8:=zh hq;have HO:=zh ho;have HZ:=zh hz;have m0:(0:Int)<=(m:Int):=(by omega);clear hi hs hq ho;obtain⟨x0,x1,x2,x3,x4,x5,x6⟩:=zbZ H0.o.k0;obtain⟨y0,y1,y2,y3,y4,y5,y6⟩:=zbZ H0.o.k2;obtain⟨l1,l2,l3⟩:=H0.o.lt;by_cases hlt:m<tl
  ·have Hl:(m:Int)<(tl:Int):=(by omega);have J7:IntKind.i64.wrap ((m:Int)+1)=(m:Int)+1:=(by rw[yQZ];omega);have H5:m<x.t.length:=(by have:=Hy.o;omega);obtain⟨g,off,An1,cn1,Ae1,ce1,Aq,cq,rfl,hty,hc5⟩:=HT.o.spot m H5;rw[HL.o]at hc5;have H9:=zh hc5;have Ha:=zh (ykZ H5);have H7:=zh (show(x.t.take m).length=m by rw[yUZ];omega);have H3:=yfZ H5;obtain⟨p,hpe⟩:=zE (x.t[m]'H5);rw[hpe]at H9 hty H3 Ha;have Hp:=zh (fun X (hX:Below wr.heap.size wr X)=>zjeZ 1000000 p (J9.o p H3) (ybZ _) _ X (IsTy.below (by rw[HL.o];exact(H0.o.go hX).b) _ _ hty));have Jb:=zh hlt;clear H3 hpe hty hc5;have Hh:=zh (fun b (e:(Value.slice A m c).ownBlock=some b)=>Own.lt HO.o b e);obtain⟨lm,hlm⟩:=zE (x.t.take m);rw[hlm]at HO H7 Ha;go_upto_region 7 with(fail)
   clear x0 x1 x2 x3 x4 x5 x6 y0 y1 y2 y3 y4 y5 y6 l1 l2 l3;obtain⟨Fs,⟨F0,F1,F2,F3,F4,F5,F6,F7,F8,F9,F10,F11,-⟩,hstay⟩:=zehZ [IsF (.pointer (some ⟨L+1+1,4,none⟩)),IsF (.slice A m c),IsF (.pointer (some ⟨L,4,none⟩)),IsF (.slice (some ⟨g,off,none⟩) tl ct),IsF (.int .i64 (m:Int)),IsF (.pointer (some ⟨g,off+m * 5,none⟩)),IsF (.agg #[.int .i64 p.kind,.string ⟨p.name.toArray⟩,.slice An1 p.names.length cn1,.slice Ae1 p.embeds.length ce1,.slice Aq p.parts.length cq]),TreeF IsTy wr.heap.size p,BoxF RTy 26 5 wr.heap.size p,AppF 0,IsF (.pointer (some ⟨L+1+1,4,none⟩)),Early fun _ _=>True] (by repeat' first | exact .nil | refine .cons (by first | exact IsF.stays | exact TreeF.stays (fun W W2 x hs h=>IsTy.sub hs _ _ h) | exact BoxF.stays RTy.sub | exact AppF.staysP | exact Early.stays fun _ _ _ _ h=>h) ?_);have H4:=zh (show wr.heap[(L+1+1)]? =some (.cells #[.int .i64 ps,.int .i64 kd,.int .i64 nn,.string ⟨nm.toArray⟩,.slice A m c,.slice AN nl cN,.slice none 0 0] 39 (0,0))from H0.o.k2);refine zbcZ (by kernel_rfl) [9,11] (PushI RTy 26 5 M none wr (.slice A m c) (lm) p (L+1+1) 4) PushM Fs undef (by kernel_rfl) (by kernel_rfl) (by kernel_rfl) (by kernel_rfl) (by kernel_rfl) hstay (n:=12) (by kernel_rfl) (show Below _ _ _ from Below.drewN (yqZ _ _) 1) ?_ ?_
   ·repeat' first | refine OpsOk.cons ?_ ?_ | fail
    ·exact .pf flX (zaZ H4.o) F0 (.n 3)
    ·exact .pl ldA [1] H4.o F1 (.f 31 F0)
    ·refine OpOk.val0 [8,7,6,5,3,2] (by kernel_rfl) rfl rfl F2 fun ρ wq r E hbq K hK=>?_;have e101:ρ (.tmp 1)=.pointer (some ⟨L,0,none⟩):=E.n 1 (by kernel_rfl);obtain⟨x0,x1,x2,x3,x4,x5,x6⟩:=zbZ (H0.o.go hbq).k0;obtain⟨l1,l2,l3⟩:=(H0.o.go hbq).lt;go_simp;exact hK
    ·refine OpOk.val0 [8,7,6,5,3] (by kernel_rfl) rfl rfl F3 fun ρ wq r E hbq K hK=>?_;have e133:=E.e 33 2 (by kernel_rfl) F2;obtain⟨x0,x1,x2,x3,x4,x5,x6⟩:=zbZ (H0.o.go hbq).k0;obtain⟨l1,l2,l3⟩:=(H0.o.go hbq).lt;go_simp;exact hK
    ·exact .m F4 (.n 4)
    ·refine OpOk.val0 [8,7,6,5] (by kernel_rfl) rfl rfl F5 fun ρ wq r E hbq K hK=>?_;have e134:=E.e 34 3 (by kernel_rfl) F3;have e135:=E.e 35 4 (by kernel_rfl) F4;obtain⟨hg,c0,c1,c2,c3,c4⟩:=H9.o wq (H0.o.go hbq).b;go_simp;exact hK
    ·refine OpOk.val0 [8,7,6] (by kernel_rfl) rfl rfl F6 fun ρ wq r E hbq K hK=>?_;have e136:=E.e 36 5 (by kernel_rfl) F5;obtain⟨hg,c0,c1,c2,c3,c4⟩:=H9.o wq (H0.o.go hbq).b;go_simp;exact hK
    ·exact .pc [8,7] F7 (fun W W2 x hs h=>IsTy.sub hs _ _ h) Tryz.func26 (.f 37 F6) fun w hb=>Hp.o w hb
    ·exact .pb [8] RTy.sub F8 F7 38 rdT fun ρ w K cs h1 h2 h3=>bsT rfl h1 h2 h3
    ·exact .pp RTy.sub 32 39 F9 F1 F8 HO.o Tryz.underlying24 zlhZ HZ.o (by have:=H7.o;have:=Hv.o;omega)
    ·exact .pf flX (zaZ H4.o) F10 (.n 3)
    ·exact .ps (fun ho=>stTX (.inl ho)) (zaZ H4.o) (fun e=>by have:=(Hh.o _ e).1;have:=Hj.o;omega) H4.o rfl F9 F11 F10 41 40
    ·exact .nil
   ·intro uq wq rq hI hF;obtain⟨A9,c9,W9,w9,rfl,hb9,hown9,hgr9,rfl⟩:=hI;simp only[yyZ,fillAct,Act.put,yoZ,yzZ,yAZ];clear hF H4 F0 F1 F2 F3 F4 F5 F6 F7 F8 F9 F10 F11 hstay;have H1:=OwnEx.push RTy.sub H0.o H8.o (fun b e=>Hh.o b e) Hj.o HZ.o hb9 hown9 hgr9 (j:=4);rw[H7.o]at H1 ⊢;obtain⟨W10,hW10⟩:=zE (w9.setCell ⟨L+1+1,4,none⟩ (.slice A9 (m+1) c9));rw[hW10]at H1 ⊢;rw[<-Ha.o]at H1;have Ht:=zh (show(OwnEx L W #[.int .i64 ps,.int .i64 kd,.int .i64 nn,.string ⟨nm.toArray⟩,.slice (some ⟨g,off,none⟩) tl ct,.slice An nl cn,.slice Ap k cp] #[.int .i64 0,.int .i64 0,.int .i64 0,.string ⟨#[]⟩,.slice none 0 0,.slice none 0 0,.slice none 0 0] #[.int .i64 ps,.int .i64 kd,.int .i64 nn,.string ⟨nm.toArray⟩,.slice A9 (m+1) c9,.slice AN nl cN,.slice none 0 0] W10)/\_ from H1);clear hW10 H1 hown9 hgr9 hb9;go_wp2_with fail;go_roundg (tl-(m+1))
    case measure=>have:=HI.o;omega
    case rel=>exact⟨m+1,A9,c9,rfl,by simp,hlt,Ht.o⟩
  ·have Hl:¬(m:Int)<(tl:Int):=(by omega);obtain rfl:tl=m:=(by omega);obtain⟨AT,rfl⟩:∃q,q=A:=⟨A,rfl⟩;obtain⟨cT,rfl⟩:∃q,q=c:=⟨c,rfl⟩;obtain⟨w8,rfl⟩:∃q,q=wr:=⟨wr,rfl⟩;have Hd:=yjZ (show x.t.length<=tl by have:=Hy.o;omega);have H2:=HO.o;rw[Hd]at H2;have J8:=zh H2.tys_since;have Ji:=H0;clear Hd H2 x0 x1 x2 x3 x4 x5 x6 y0 y1 y2 y3 y4 y5 y6 l1 l2 l3;obtain⟨x0,x1,x2,x3,x4,x5,x6⟩:=zbZ H0.o.k0;obtain⟨l1,l2,l3⟩:=H0.o.lt;go_wp2_with fail;obtain⟨M2,hM2⟩:=zE (w8.heap.size);have J2:=zh hM2;have Hm:=zh (show L+1+1+1<=M2 by rw[<-hM2];exact ymZ Hj.o HZ.o);have Jg:=zh (show M<=M2 by rw[<-hM2];exact HZ.o);have J6:=H8;clear hM2 x0 x1 x2 x3 x4 x5 x6 l1 l2 l3 HI HO H0 H8 HZ
   go_loopg [5] k (fun i v wr=>∃(m:Nat) (A:Option Addr) (c:Nat),i=k-m/\v=.int .i64 (m:Nat)/\m<=k/\OwnEx L W #[.int .i64 ps,.int .i64 kd,.int .i64 nn,.string ⟨nm.toArray⟩,.slice At tl ct,.slice An nl cn,.slice Ap k cp] #[.int .i64 0,.int .i64 0,.int .i64 0,.string ⟨#[]⟩,.slice none 0 0,.slice none 0 0,.slice none 0 0] #[.int .i64 ps,.int .i64 kd,.int .i64 nn,.string ⟨nm.toArray⟩,.slice AT tl cT,.slice AN nl cN,.slice A m c] wr/\
     (∀gg,L+1+1+1<=gg->gg<M2->wr.heap[gg]? =w8.heap[gg]?)/\Own REx 39 7 M2 none wr (.slice A m c) (x.parts.take m)/\M2<=wr.heap.size)
   case atStart=>exact⟨0,none,0,rfl,rfl,yxZ _,Ji.o,fun _ _ _=>rfl,Own.nil,Nat.le_of_eq J2.o.symm⟩
   case round=>
    obtain⟨m,A,c,hi,rfl,hm,hs,hq,ho,hz⟩:=hrel;have HI:=zh hi;have H0:=zh hs;have H8:=zh hq;have HO:=zh ho;have HZ:=zh hz;have m0:(0:Int)<=(m:Int):=(by omega);clear hi hs hq ho;obtain⟨x0,x1,x2,x3,x4,x5,x6⟩:=zbZ H0.o.k0;obtain⟨y0,y1,y2,y3,y4,y5,y6⟩:=zbZ H0.o.k2;obtain⟨l1,l2,l3⟩:=H0.o.lt;by_cases hlt:m<k
    ·have Hl:(m:Int)<(k:Int):=(by omega);have J7:IntKind.i64.wrap ((m:Int)+1)=(m:Int)+1:=(by rw[yQZ];omega);have H5:m<x.parts.length:=(by have:=HK.o;omega);obtain⟨g,off,Atp,ctp,Anp,cnp,App,cpp,rfl,hty,hc5⟩:=HP.o.spot m H5;rw[HL.o]at hc5;have H9:=zh hc5;have Ha:=zh (ykZ H5);have H7:=zh (show(x.parts.take m).length=m by rw[yUZ];omega);have H3:=yfZ H5;obtain⟨p,hpe⟩:=zE (x.parts[m]'H5);rw[hpe]at H9 hty H3 Ha;have Hp:=zh (fun X (hX:Below wr.heap.size wr X)=>Jd.o p H3 _ X (IsEx.below (by rw[HL.o];exact(H0.o.go hX).b) _ _ hty));have Jb:=zh hlt;clear H3 hpe hty hc5;have Hh:=zh (fun b (e:(Value.slice A m c).ownBlock=some b)=>Own.lt HO.o b e);obtain⟨lm,hlm⟩:=zE (x.parts.take m);rw[hlm]at HO H7 Ha;go_upto_region 11 with(fail)
     clear x0 x1 x2 x3 x4 x5 x6 y0 y1 y2 y3 y4 y5 y6 l1 l2 l3;obtain⟨Fs,⟨F0,F1,F2,F3,F4,F5,F6,F7,F8,F9,F10,F11,-⟩,hstay⟩:=zehZ [IsF (.pointer (some ⟨L+1+1,6,none⟩)),IsF (.slice A m c),IsF (.pointer (some ⟨L,6,none⟩)),IsF (.slice (some ⟨g,off,none⟩) k cp),IsF (.int .i64 (m:Int)),IsF (.pointer (some ⟨g,off+m * 7,none⟩)),IsF (.agg #[.int .i64 p.pos,.int .i64 p.kind,.int .i64 p.n,.string ⟨p.s.toArray⟩,.slice Atp p.t.length ctp,.slice Anp p.names.length cnp,.slice App p.parts.length cpp]),TreeF IsEx wr.heap.size p,BoxF REx 39 7 wr.heap.size p,AppF 0,IsF (.pointer (some ⟨L+1+1,6,none⟩)),Early fun _ _=>True] (by repeat' first | exact .nil | refine .cons (by first | exact IsF.stays | exact TreeF.stays (fun W W2 x hs h=>IsEx.sub hs _ _ h) | exact BoxF.stays REx.sub | exact AppF.staysP | exact Early.stays fun _ _ _ _ h=>h) ?_);have H4:=zh (show wr.heap[(L+1+1)]? =some (.cells #[.int .i64 ps,.int .i64 kd,.int .i64 nn,.string ⟨nm.toArray⟩,.slice AT tl cT,.slice AN nl cN,.slice A m c] 39 (0,0))from H0.o.k2);refine zbcZ (by kernel_rfl) [9,11] (PushI REx 39 7 M2 none wr (.slice A m c) (lm) p (L+1+1) 6) PushM Fs undef (by kernel_rfl) (by kernel_rfl) (by kernel_rfl) (by kernel_rfl) (by kernel_rfl) hstay (n:=12) (by kernel_rfl) (show Below _ _ _ from Below.drewN (yqZ _ _) 1) ?_ ?_
     ·repeat' first | refine OpsOk.cons ?_ ?_ | fail
      ·exact .pf flX (zaZ H4.o) F0 (.n 3)
      ·exact .pl ldA [1] H4.o F1 (.f 49 F0)
      ·refine OpOk.val0 [8,7,6,5,3,2] (by kernel_rfl) rfl rfl F2 fun ρ wq r E hbq K hK=>?_;have e101:ρ (.tmp 1)=.pointer (some ⟨L,0,none⟩):=E.n 1 (by kernel_rfl);obtain⟨x0,x1,x2,x3,x4,x5,x6⟩:=zbZ (H0.o.go hbq).k0;obtain⟨l1,l2,l3⟩:=(H0.o.go hbq).lt;go_simp;exact hK
      ·refine OpOk.val0 [8,7,6,5,3] (by kernel_rfl) rfl rfl F3 fun ρ wq r E hbq K hK=>?_;have e151:=E.e 51 2 (by kernel_rfl) F2;obtain⟨x0,x1,x2,x3,x4,x5,x6⟩:=zbZ (H0.o.go hbq).k0;obtain⟨l1,l2,l3⟩:=(H0.o.go hbq).lt;go_simp;exact hK
      ·exact .m F4 (.n 5)
      ·refine OpOk.val0 [8,7,6,5] (by kernel_rfl) rfl rfl F5 fun ρ wq r E hbq K hK=>?_;have e152:=E.e 52 3 (by kernel_rfl) F3;have e153:=E.e 53 4 (by kernel_rfl) F4;obtain⟨hg,c0,c1,c2,c3,c4,c5,c6⟩:=H9.o wq (H0.o.go hbq).b;go_simp;exact hK
      ·refine OpOk.val0 [8,7,6] (by kernel_rfl) rfl rfl F6 fun ρ wq r E hbq K hK=>?_;have e154:=E.e 54 5 (by kernel_rfl) F5;obtain⟨hg,c0,c1,c2,c3,c4,c5,c6⟩:=H9.o wq (H0.o.go hbq).b;go_simp;exact hK
      ·exact .pc [8,7] F7 (fun W W2 x hs h=>IsEx.sub hs _ _ h) Tryz.func32 (.f 55 F6) fun w hb=>Hp.o w hb
      ·exact .pb [8] REx.sub F8 F7 56 rdE fun ρ w K cs h1 h2 h3=>bsE rfl h1 h2 h3
      ·exact .pp REx.sub 50 57 F9 F1 F8 HO.o Tryz.underlying37 zrkZ HZ.o (by have:=H7.o;have:=Hv.o;omega)
      ·exact .pf flX (zaZ H4.o) F10 (.n 3)
      ·exact .ps (fun ho=>stTX (.inr ho)) (zaZ H4.o) (fun e=>by have:=(Hh.o _ e).1;have:=Hm.o;omega) H4.o rfl F9 F11 F10 59 58
      ·exact .nil
     ·intro uq wq rq hI hF;obtain⟨A9,c9,W9,w9,rfl,hb9,hown9,hgr9,rfl⟩:=hI;simp only[yyZ,fillAct,Act.put,yoZ,yzZ,yAZ];clear hF H4 F0 F1 F2 F3 F4 F5 F6 F7 F8 F9 F10 F11 hstay;have H1:=OwnEx.push REx.sub H0.o H8.o (fun b e=>Hh.o b e) Hm.o HZ.o hb9 hown9 hgr9 (j:=6);rw[H7.o]at H1 ⊢;obtain⟨W10,hW10⟩:=zE (w9.setCell ⟨L+1+1,6,none⟩ (.slice A9 (m+1) c9));rw[hW10]at H1 ⊢;rw[<-Ha.o]at H1;have Ht:=zh (show(OwnEx L W #[.int .i64 ps,.int .i64 kd,.int .i64 nn,.string ⟨nm.toArray⟩,.slice At tl ct,.slice An nl cn,.slice (some ⟨g,off,none⟩) k cp] #[.int .i64 0,.int .i64 0,.int .i64 0,.string ⟨#[]⟩,.slice none 0 0,.slice none 0 0,.slice none 0 0] #[.int .i64 ps,.int .i64 kd,.int .i64 nn,.string ⟨nm.toArray⟩,.slice AT tl cT,.slice AN nl cN,.slice A9 (m+1) c9] W10)/\_ from H1);clear hW10 H1 hown9 hgr9 hb9;go_wp2_with fail;go_roundg (k-(m+1))
      case measure=>have:=HI.o;omega
      case rel=>exact⟨m+1,A9,c9,rfl,by simp,hlt,Ht.o⟩
    ·have Hl:¬(m:Int)<(k:Int):=(by omega);have Hd:=yjZ (show x.parts.length<=m by have:=HK.o;omega);have H2:=HO.o;rw[Hd]at H2;obtain⟨z0,z1,z2,z3,z4,z5,z6⟩:=zbZ H0.o.k1;obtain⟨f0,f1,f2,f3,f4,f5,f6⟩:=zcsZ H0.o.k1;have Hs:=zh H2.exs_since;clear Hd H2;go_wp2_with fail;obtain⟨wz,hwz⟩:=zE ((((((((wr.setCell ⟨L+1,0,none⟩ (.int .i64 ps)).setCell ⟨L+1,1,none⟩ (.int .i64 kd)).setCell ⟨L+1,2,none⟩ (.int .i64 nn)).setCell ⟨L+1,3,none⟩ (.string ⟨nm.toArray⟩)).setCell ⟨L+1,4,none⟩ (.slice AT tl cT)).setCell ⟨L+1,5,none⟩ (.slice AN nl cN)).setCell ⟨L+1,6,none⟩ (.slice A m c)));rw[hwz];have J3:=(yMZ _ _ 6 _ _ (.slice A m c) (yMZ _ _ 5 _ _ (.slice AN nl cN) (yMZ _ _ 4 _ _ (.slice AT tl cT) (yMZ _ _ 3 _ _ (.string ⟨nm.toArray⟩) (yMZ _ _ 2 _ _ (.int .i64 nn) (yMZ _ _ 1 _ _ (.int .i64 kd) (yMZ _ _ 0 _ _ (.int .i64 ps) H0.o.k1)))))));have Je:Below L W wz:=(by rw[<-hwz];exact(((((((H0.o.b.setCell (by simp) _).setCell (by simp) _).setCell (by simp) _).setCell (by simp) _).setCell (by simp) _).setCell (by simp) _).setCell (by simp) _));have H6:∀gg,gg≠L+1->wz.heap[gg]? =wr.heap[gg]? :=fun gg h=>(by rw[<-hwz];exact(yuZ _ _ _ _ h).trans ((yuZ _ _ _ _ h).trans ((yuZ _ _ _ _ h).trans ((yuZ _ _ _ _ h).trans ((yuZ _ _ _ _ h).trans ((yuZ _ _ _ _ h).trans (yuZ _ _ _ _ h)))))));rw[hwz]at J3;obtain⟨q0,q1,q2,q3,q4,q5,q6⟩:=zbZ (show wz.heap[L+1]? =some (.cells #[.int .i64 ps,.int .i64 kd,.int .i64 nn,.string ⟨nm.toArray⟩,.slice AT tl cT,.slice AN nl cN,.slice A m c] 39 (0,0))from J3);have Hc:Sub (only w7 (since (L+1+1+1))) (only wz (since L)):=znZ fun gg hg hs=>(by have h1:=zmZ.1 hs;refine⟨zmZ.2 (by omega),?_⟩;rw[H6 gg (by omega),H8.o gg h1 (by have:=HM.o;have:=Jg.o;omega)];exact J6.o gg h1 (by have:=HM.o;omega));have J4:Sub (only w8 (since M)) (only wz (since L)):=znZ fun gg hg hs=>(by have h1:=zmZ.1 hs;have:=Hj.o;refine⟨zmZ.2 (by omega),?_⟩;rw[H6 gg (by omega)];exact H8.o gg (by omega) (by have:=J2.o;omega));have Jc:Sub (only wr (since M2)) (only wz (since L)):=znZ fun gg hg hs=>(by have h1:=zmZ.1 hs;have:=Hm.o;refine⟨zmZ.2 (by omega),?_⟩;rw[H6 gg (by omega)]);refine ylZ (v:=.agg #[.int .i64 ps,.int .i64 kd,.int .i64 nn,.string ⟨nm.toArray⟩,.slice AT tl cT,.slice AN nl cN,.slice A m c]) (by simp[results, Tryz.results32,go_sem,q0,q1,q2,q3,q4,q5,q6]) rfl ⟨_,rfl,?_,Je⟩;rw[Jf.o];exact IsEx.made2 (J8.o.sub J4) (J5.o.sub Hc) (Hs.o.sub Jc) Hb.o.1 Hb.o.2
theorem zmiZ:∀(n:Nat) (x:Sx.Ex),Sx.sizeX x<=n->n<=1000000->OwnXOk x
 | 0,x,h,_=>by have:=Sx.sizeX_pos x;omega
 | n+1,x,h,h1=>zrlZ x (by omega) fun p hp=>zmiZ n p (by
   have:=Sx.sizeX_mem hp;have:=Sx.sizeX_parts x
   omega) (by omega)
end Go.Proofs.YtdncljdfmdgdaaaGreatDoor
