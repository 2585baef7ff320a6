/-
  The walks of coilkeep.Expr, Exprs: of two copies of one tree.
-/
import Derived.Test.YtdncljdfmdgdaaaGreatDoorM1
import Derived.Test.YtdncljdfmdgdaaaGreatDoorM22
import Derived.Test.YtdncljdfmdgdaaaGreatDoorM41
import Derived.Test.YtdncljdfmdgdaaaGreatDoorM16
import Derived.Test.YtdncljdfmdgdaaaGreatDoorM19
import Derived.Test.YtdncljdfmdgdaaaGreatDoorM34
set_option linter.unusedSimpArgs false
set_option linter.unusedVariables false
set_option maxRecDepth 100000
set_option maxHeartbeats 16000000
namespace Go.Proofs.YtdncljdfmdgdaaaGreatDoor
open Go.RowKit Go.Shelf
def KXOk (x:Sx.Ex):Prop:=∀(v v':Value) (W:World),Sx.sizeX x≤1000000→IsEx W v x→IsEx W v' x→
 Calls Tryz.prog 35 #[v,v',.bool true] W fun e W'=>e=.returned (.bool true)∧Below W.heap.size W W'
def KXsOk (l:List Sx.Ex):Prop:=∀(v v':Value) (W:World),Sx.sizeXs l≤1000000→ExRow W v l→ExRow W v' l→
 Calls Tryz.prog 82 #[v,v',.bool true] W fun e W'=>e=.returned (.bool true)∧Below W.heap.size W W'
theorem zqeZ (l:List Sx.Ex) (ih:∀t∈l,KXOk t):KXsOk l:=by
 intro v x W H3 hv hx
 have H8:=Sx.length_sizeXs l
 obtain⟨A1,c1,rfl,hca,hra⟩:=hv
 obtain⟨A2,c2,rfl,hcb,hrb⟩:=hx
 have HV:=zh (show ExRow W (.slice A1 l.length c1) l from⟨A1,c1,rfl,hca,hra⟩)
 have HX:=zh (show ExRow W (.slice A2 l.length c2) l from⟨A2,c2,rfl,hcb,hrb⟩)
 clear hca hra hcb hrb
 obtain⟨k,hk⟩:=zE (l.length)
 rw[hk]at HV HX ⊢
 have k0:(0:Int)≤(k:Int):=by omega
 have k1:(k:Int)≤1000000:=by omega
 have HK:=zh hk
 have Ha:=zh H3
 have H9:=zh ih
 obtain⟨L,hL⟩:=zE (W.heap.size)
 have HL:=zh hL
 clear hk H8 H3 ih hL
 go_enter Tryz.func82, Tryz.ntmps82
 go_wp2_with fail
 go_loopg [7] k (fun i v wr=>∃(q:Nat),i=k-q∧v=.int .i64 (q:Int)∧q≤k∧Below L W wr)
 case atStart=>exact⟨0,rfl,rfl,Nat.zero_le _,Below.refl _ _⟩
 case round=>
  obtain⟨q,hi,rfl,hq,hb⟩:=hrel
  have HI:=zh hi
  have HB:=zh hb
  have q0:(0:Int)≤(q:Int):=by omega
  have hLs:L≤wr.heap.size:=by have:=hb.size;have:=HL.o;omega
  clear hi hb
  by_cases hlt:q<k
  ·have Hb:(q:Int)<(k:Int):=by omega
   have H1:q<l.length:=by have:=HK.o;omega
   obtain⟨g,off,At,ct,An,cn,Ap,cp,rfl,hty,hc5⟩:=HV.o.spot q H1
   obtain⟨g2,off2,Bt,dt,Bn,dn,Bp,dp,rfl,hty2,hd5⟩:=HX.o.spot q H1
   rw[HL.o]at hc5 hd5
   obtain⟨hg,x0,x1,x2,x3,x4,x5,x6⟩:=hc5 wr HB.o
   obtain⟨hg2,y0,y1,y2,y3,y4,y5,y6⟩:=hd5 wr HB.o
   have H5:=Sx.sizeX_mem (List.getElem_mem H1)
   have H0:=List.getElem_mem H1
   obtain⟨p,hp⟩:=zE (l[q]'H1)
   rw[hp]at x0 x1 x2 x3 x4 x5 x6 hty H5 H0 y0 y1 y2 y3 y4 y5 y6 hty2
   have H2:Below W.heap.size W wr.drew:=by rw[HL.o];exact Below.drew HB.o
   have H6:=H9.o p H0 _ _ wr.drew (by have:=Ha.o;omega) (IsEx.below H2 _ _ hty) (IsEx.below H2 _ _ hty2)
   have H7:=zh H6
   clear hty hty2 hc5 hd5 H5 H0 hp H2 H6
   go_upto_region 6 with fail
   go_region_with (go_at_call 35;refine H7.o.mono ?_;rintro e w5 ⟨rfl,H4⟩)
   all_goals
    have Hc:=zh ((Below.drew HB.o).trans (H4.mono hLs))
    clear H4
    go_wp2_with fail
    go_roundg (k-(q+1))
    case measure=>have:=HI.o;omega
    case rel=>exact⟨q+1,rfl,by simp,hlt,Hc.o⟩
  ·have Hb:¬(q:Int)<(k:Int):=by omega
   go_wp2_with fail
   go_ret
   rw[HL.o]
   exact⟨rfl,HB.o⟩
theorem zqfZ (t:Sx.Ex) (ih:KXsOk t.parts):KXOk t:=by
 intro v x W H7 hv hx
 have Ha:=Sx.sizeX_parts t
 have H8:=Sx.length_sizeXs t.parts
 have H9:=Sx.length_size t.t
 obtain⟨At,ct,An,cn,Ap,cp,rfl,h1,h2,h3,-,-⟩:=hv.agg
 obtain⟨Bt,dt,Bn,dn,Bp,dp,rfl,h4,h5,h6,-,-⟩:=hx.agg
 have hT:=fun X (hX:Below W.heap.size W X)=>(zilZ t.names t.names _ _ X (h2.below hX) (h5.below hX) (by omega) (by omega)).mono fun e w' h=>(show e=.returned (.bool true)∧Below X.heap.size X w' from⟨by rw[h.1];simp,h.2⟩)
 have hB:=fun X (hX:Below W.heap.size W X)=>(zinZ t.t (fun p _=>zgfZ _ p (Nat.le_refl _)) t.t _ _ X (by omega) (by omega) (h1.below hX) (h4.below hX)).mono fun e w' h=>(show e=.returned (.bool true)∧Below X.heap.size X w' from⟨by rw[h.1,(Sx.eqTs_iff t.t t.t).2 rfl],h.2⟩)
 have hP:=fun X (hX:Below W.heap.size W X)=>ih _ _ X (by omega) (h3.below hX) (h6.below hX)
 obtain⟨w2,hw2⟩:=zE (W.alloc (.cells #[.int .i64 t.pos,.int .i64 t.kind,.int .i64 t.n,.string ⟨t.s.toArray⟩,.slice At t.t.length ct,.slice An t.names.length cn,.slice Ap t.parts.length cp] 39))
 obtain⟨L,hL⟩:=zE (W.heap.size)
 obtain⟨L5,hL5⟩:=zE (w2.heap.size)
 obtain⟨w3,hw3⟩:=zE (w2.alloc (.cells #[.int .i64 t.pos,.int .i64 t.kind,.int .i64 t.n,.string ⟨t.s.toArray⟩,.slice Bt t.t.length dt,.slice Bn t.names.length dn,.slice Bp t.parts.length dp] 39))
 have g2:=World.grownBy_alloc W (.cells #[.int .i64 t.pos,.int .i64 t.kind,.int .i64 t.n,.string ⟨t.s.toArray⟩,.slice At t.t.length ct,.slice An t.names.length cn,.slice Ap t.parts.length cp] 39) none
 have x2:=heap_alloc_new W (.cells #[.int .i64 t.pos,.int .i64 t.kind,.int .i64 t.n,.string ⟨t.s.toArray⟩,.slice At t.t.length ct,.slice An t.names.length cn,.slice Ap t.parts.length cp] 39)
 rw[hw2]at g2 x2
 have g3:=World.grownBy_alloc w2 (.cells #[.int .i64 t.pos,.int .i64 t.kind,.int .i64 t.n,.string ⟨t.s.toArray⟩,.slice Bt t.t.length dt,.slice Bn t.names.length dn,.slice Bp t.parts.length dp] 39) none
 have x3:=heap_alloc_new w2 (.cells #[.int .i64 t.pos,.int .i64 t.kind,.int .i64 t.n,.string ⟨t.s.toArray⟩,.slice Bt t.t.length dt,.slice Bn t.names.length dn,.slice Bp t.parts.length dp] 39)
 rw[hw3]at g3 x3
 rw[hL]at x2
 rw[hL5]at x3
 have H3:=zh (show Held2 L W #[.int .i64 t.pos,.int .i64 t.kind,.int .i64 t.n,.string ⟨t.s.toArray⟩,.slice At t.t.length ct,.slice An t.names.length cn,.slice Ap t.parts.length cp] 39 L5 #[.int .i64 t.pos,.int .i64 t.kind,.int .i64 t.n,.string ⟨t.s.toArray⟩,.slice Bt t.t.length dt,.slice Bn t.names.length dn,.slice Bp t.parts.length dp] 39 w3 from⟨by rw[←hL];exact(zeZ g2).trans ((zeZ g3).mono g2.size),(g3.block L (zaZ x2) (fun e=>nomatch e)).trans x2,x3⟩)
 have HT:=zh hT
 have HB:=zh hB
 have HP:=zh hP
 have HL:=zh hL
 clear hT hB hP g2 g3 x2 x3 Ha H8 H9 h1 h2 h3 h4 h5 h6 hv hx ih H7
 have h6:=HL.o
 obtain⟨x0,x1,x2,x3,x4,x5,x6⟩:=zbZ H3.o.b1
 obtain⟨y0,y1,y2,y3,y4,y5,y6⟩:=zbZ H3.o.b2
 obtain⟨l1,l2⟩:=H3.o.lt
 go_enter Tryz.func35, Tryz.ntmps35
 go_wp2_with (first
  | (go_at_call 72;refine(HB.o _ (by first | exact H3.o.b | (rw[HL.o];exact H3.o.b))).mono ?_;rintro e w4 ⟨rfl,H2⟩;have H4:=zh (H3.o.go H2);clear H2;clear x0 x1 x2 x3 x4 x5 x6 y0 y1 y2 y3 y4 y5 y6 l1 l2;obtain⟨x0,x1,x2,x3,x4,x5,x6⟩:=zbZ H4.o.b1;obtain⟨y0,y1,y2,y3,y4,y5,y6⟩:=zbZ H4.o.b2;obtain⟨l1,l2⟩:=H4.o.lt)
  | (go_at_call 46;refine(HT.o _ (by first | exact H4.o.b | (rw[HL.o];exact H4.o.b))).mono ?_;rintro e w5 ⟨rfl,H0⟩;have H5:=zh (H4.o.go H0);clear H0;clear x0 x1 x2 x3 x4 x5 x6 y0 y1 y2 y3 y4 y5 y6 l1 l2;obtain⟨x0,x1,x2,x3,x4,x5,x6⟩:=zbZ H5.o.b1;obtain⟨y0,y1,y2,y3,y4,y5,y6⟩:=zbZ H5.o.b2;obtain⟨l1,l2⟩:=H5.o.lt)
  | (go_at_call 82;refine(HP.o _ (by first | exact H5.o.b | (rw[HL.o];exact H5.o.b))).mono ?_;rintro e w6 ⟨rfl,H1⟩;have H6:=zh (H5.o.go H1);clear H1))
 go_ret
 refine⟨by first | rfl | simp,?_⟩
 first | exact H6.o.b | (rw[HL.o];exact H6.o.b)
theorem zglZ:∀(n:Nat) (t:Sx.Ex),Sx.sizeX t≤n→KXOk t
 | 0,t,h=>by have:=Sx.sizeX_pos t;omega
 | n+1,t,h=>zqfZ t (zqeZ t.parts fun p hp=>zglZ n p (by
   have:=Sx.sizeX_mem hp
   have:=Sx.sizeX_parts t
   omega))
theorem zjkZ {P:Program} {w:World} {o:Oper} {ρ:Operand→Value} {K:Value→World→Prop} (s x:Operand) (t:TypeId)
  (ho:o.op=.call { callee:=.builtin .append,args:=#[s,x],argTypes:=#[t,t] })
  (base:Nat) (e:TypeId) (i:TypeInfo) (z:Value) (size bytes:Nat) (ht:P.underlying t=some (.slice e)) (hi:P.info? e=some i) (hz:i.zero=some z)
  (hsize:i.size=size) (hby:i.bytes=bytes) (hzs:z.cells.size=size) (hsz:0<size)
  (v:Value) (n:Nat) (xs:List Value) (hs:ρ s=v) (hown:w.ownsRow base e size v n xs)
  (ad:Addr) (m c:Nat) (news:List Value) (hx:ρ x=.slice (some ad) m c) (hl:news.length=m * size) (hnews:∀j u,news[j]? =some u→w.cell? (ad.add j)=some u) (h1:∀u∈news,u.oneCell'=true)
  (h63:n+m≤maxLen) (hbytes:(n+m) * bytes≤140737488355328) (hbase:base≤w.heap.size)
  (h:∀v' w',w'.ownsRow base e size v' (n+m) (xs++news)→w.grownBy w' v.ownBlock→(v'.ownBlock=v.ownBlock∨v'.ownBlock=some w.heap.size)→K v' w'):opWp P o ρ w K:=by
 obtain⟨v',w',hr,h2,h3,h4,h5⟩:=run_append_own_at (P:=P) w base t o.type e i z size bytes ht hi hz hsize hby hzs hsz v n xs hown ad m c news hl hnews h1 h63 hbytes hbase
 unfold opWp execOp
 simp only[ho,resolve,invoke,builtin,Sem.run_bind,Sem.run_pure,Result.andThen_ok,List.map_toArray,List.map_cons,List.map_nil,hs,hx,hr]
 exact h v' w' h2 h3 h5
theorem zuuZ {α:Type} {R:World→List Value→α→Prop} (hR:∀W W' cs t,Sub W W'→R W cs t→R W' cs t) {P:Program} {w:World} {o:Oper} {ρ:Operand→Value} {K:Value→World→Prop} (s x:Operand) (t:TypeId)
  (ho:o.op=.call { callee:=.builtin .append,args:=#[s,x],argTypes:=#[t,t] })
  {e size L:Nat} {X:Option Nat} {v:Value} {n:Nat} {l:List α} (hown:Own R e size L X w v l) (hln:l.length=n) {z:Value} {bytes:Nat} (ht:P.underlying t=some (.slice e)) (hi:(P.info? e).map (fun i=>(i.zero,i.size,i.bytes))=some (some z,size,bytes)) (hzs:z.cells.size=size) (hsz:0<size)
  (hs:ρ s=v) {k c:Nat} {cs:List Value} {cf:Array Value} (hcf:cf.toList=cs) {u:α} {B:Nat} (hx:ρ x=.slice (some ⟨k,0,none⟩) 1 c) (hk:w.heap[k]? =some (.cells cf e (0,0))) (hcs:cs.length=size) (h1:∀u∈cs,u.oneCell'=true)
  (hr:R (only w (since B)) cs u) (hLB:L≤B) (hBw:B≤w.heap.size) (hXB:∀b,X=some b→b<B) (hgB:∀b,v.ownBlock=some b→b<B)
  (hn:n+1≤1000000) (hby:bytes≤1000)
  (h:∀A c w',Own R e size L X w' (.slice A (n+1) c) (l++[u])→w.grownBy w' v.ownBlock→K (.slice A (n+1) c) w'):opWp P o ρ w K:=by
 subst hln
 obtain⟨xss,hrow,hl,hxx,hel⟩:=hown
 obtain⟨i,hi1,hi2⟩:=Option.map_eq_some_iff.1 hi
 simp only[Prod.mk.injEq]at hi2
 obtain⟨i1,i2,i3⟩:=hi2
 refine zjkZ s x t ho L e i z size bytes ht hi1 i1 i2 i3 hzs hsz v l.length xss.flatten hs hrow ⟨k,0,none⟩ 1 c cs hx (by rw[hcs,Nat.one_mul]) ?_ h1 (by unfold maxLen;omega) ?_ (by omega) ?_
 ·intro j q hj
  rw[zceZ,Nat.zero_add,zdZ hk,←Array.getElem?_toList,hcf]
  exact hj
 ·have:=Nat.mul_le_mul hn hby
  omega
 ·intro v' w' hown' hg H2
  have H0:∀b,v'.ownBlock=some b→v.ownBlock=some b∨b=w.heap.size:=by
   intro b hb
   rcases H2 with h | h
   ·exact .inl (h.symm.trans hb)
   ·right;rw[h]at hb;injection hb with hb;exact hb.symm
  have H1:∃A c,v'=.slice A (l.length+1) c:=by
   rcases hown'.2 with⟨rfl,h0⟩ | ⟨g,cap,cur,rfl,-⟩
   ·omega
   ·exact⟨_,cap,rfl⟩
  obtain⟨A',c',rfl⟩:=H1
  refine h A' c' w' ⟨xss++[cs],by simpa using hown',by simp[hl],?_,fun j hj=>?_⟩ hg
  ·intro he
   by_cases hne:X=none
   ·exact hne
   ·obtain⟨b,hb⟩:=Option.ne_none_iff_exists'.1 hne
    rw[hb]at he
    rcases H0 b he with h | h
    ·exact hxx (h.trans hb.symm)
    ·have:=hXB b hb
     omega
  ·by_cases hjl:j<l.length
   ·obtain⟨cs',e1,e2,e3⟩:=hel j hjl
    refine⟨cs',by rw[List.getElem?_append_left (by omega)];exact e1,e2,?_⟩
    rw[List.getElem_append_left hjl]
    refine hR _ _ _ _ (zxZ fun g hgw hs=>?_) e3
    obtain⟨p1,p2,p3⟩:=zbiZ.1 hs
    refine⟨zbiZ.2 ⟨p1,p2,fun e=>?_⟩,hg.block g hgw p3⟩
    rcases H0 g e.symm with h | h
    ·exact p3 h.symm
    ·omega
   ·obtain rfl:j=l.length:=by simp at hj;omega
    refine⟨cs,by rw[List.getElem?_append_right (by omega),hl,Nat.sub_self];rfl,hcs,?_⟩
    rw[List.getElem_append_right (Nat.le_refl _)]
    simp only[Nat.sub_self,List.getElem_cons_zero]
    refine hR _ _ _ _ (zxZ fun g hgw hs=>?_) hr
    have hB:=zvZ.1 hs
    refine⟨zbiZ.2 ⟨by omega,fun e=>?_,fun e=>?_⟩,hg.block g hgw fun e=>?_⟩
    ·have:=hXB g e.symm;omega
    ·rcases H0 g e.symm with h | h
     ·have:=hgB g h;omega
     ·omega
    ·have:=hgB g e.symm;omega
section
variable {α:Type} (R:World→List Value→α→Prop) (e size M:Nat) (X:Option Nat) (wr:World) (v0:Value) (l:List α) (p:α) (bx j:Nat)
def PushI:Nat→World→Value→Prop
 | 0,w,_=>Below wr.heap.size wr w
 | 1,w,r=>∃A c W9,r=.slice A (l.length+1) c∧Below wr.heap.size wr W9∧Own R e size M X w r (l++[p])∧W9.grownBy w v0.ownBlock
 | _,w,r=>∃A c W9 w9,r=.slice A (l.length+1) c∧Below wr.heap.size wr W9∧Own R e size M X w9 r (l++[p])∧W9.grownBy w9 v0.ownBlock∧w=w9.setCell ⟨bx,j,none⟩ r
def PushM:World→Value→Nat→World→Value→Nat→Prop:=fun w r k w' r' k'=>k≤k'∧(k'=k→r'=r)∧(k'=0→Below w.heap.size w w')
def Early (P:Value→World→Prop):Value→World→Value→Nat→Prop:=fun x w _ k=>k=0→P x w
def TreeF (IsX:World→Value→α→Prop) (N:Nat) (p:α):Value→World→Value→Nat→Prop:=Early fun x w=>IsX (only w (since N)) x p
def BoxF (N:Nat) (p:α):Value→World→Value→Nat→Prop:=Early fun x w=>∃kb cf c,x=.slice (some ⟨kb,0,none⟩) 1 c∧w.heap[kb]? =some (.cells cf e (0,0))∧cf.toList.length=size∧(∀u∈cf.toList,u.oneCell'=true)∧R (only w (since N)) cf.toList p
end
theorem Early.stays {P:Value→World→Prop} (h:∀x w w',Below w.heap.size w w'→P x w→P x w'):Stays PushM (Early P):=fun x w r k w' r' k' hm hh hk=>h x w w' (hm.2.2 hk) (hh (by have:=hm.1;omega))
theorem TreeF.stays {α:Type} {IsX:World→Value→α→Prop} {N:Nat} {p:α} (hs:∀W W' x,Sub W W'→IsX W x p→IsX W' x p):Stays PushM (TreeF IsX N p):=Early.stays fun x w w' hb h=>hs _ _ _ (Sub.since_below hb) h
theorem BoxF.stays {α:Type} {R:World→List Value→α→Prop} {e size N:Nat} {p:α} (hR:∀W W' cs t,Sub W W'→R W cs t→R W' cs t):Stays PushM (BoxF R e size N p):=Early.stays fun x w w' hb h=>by
 obtain⟨kb,cf,c,h1,h2,h3,h4,h5⟩:=h
 exact⟨kb,cf,c,h1,(hb.block kb (zaZ h2)).trans h2,h3,h4,hR _ _ _ _ (Sub.since_below hb) h5⟩
theorem AppF.staysP {j:Nat} : Stays PushM (AppF j):=fun x w r k w' r' k' hm h=>by
 obtain⟨h2,h3,-⟩:=hm
 refine⟨by have:=h.1;omega,fun e=>?_⟩
 have hk:k'=k:=by have:=h.1;omega
 rw[h3 hk]
 exact h.2 (by omega)
theorem PushM.refl {w:World} {r:Value} {k:Nat} : PushM w r k w r k:=⟨Nat.le_refl _,fun _=>rfl,fun _=>Below.refl _ _⟩
theorem PushM.below {w w':World} {r:Value} {k:Nat} (h:Below w.heap.size w w'):PushM w r k w' r k:=⟨Nat.le_refl _,fun _=>rfl,fun _=>h⟩
section
variable {α:Type} {R:World→List Value→α→Prop} {e size M:Nat} {X:Option Nat} {wr:World} {v0:Value} {l:List α} {p:α} {bx j:Nat}
theorem PushI.early {w w':World} {r:Value} (h:PushI R e size M X wr v0 l p bx j 0 w r) (hb:Below w.heap.size w w'):PushI R e size M X wr v0 l p bx j 0 w' r:=Below.trans h (hb.mono h.size)
theorem PushI.block {k:Nat} {w:World} {r:Value} (h:PushI R e size M X wr v0 l p bx j k w r) {g:Nat} (hg:g<wr.heap.size) (h1:v0.ownBlock≠some g) (h2:k<2):w.heap[g]? =wr.heap[g]? ∧wr.heap.size≤w.heap.size:=by
 match k,h,h2 with
 | 0,h,_=>
  have hb:Below wr.heap.size wr w:=h
  exact⟨hb.block g hg,hb.size⟩
 | 1,h,_=>
  obtain⟨A,c,W9,-,hb,-,hgr⟩:=h
  exact⟨(hgr.block g (Nat.lt_of_lt_of_le hg hb.size) (fun e=>h1 e.symm)).trans (hb.block g hg),Nat.le_trans hb.size hgr.size⟩
theorem OpOk.push {P:Program} {ops:Array Oper} {Q:Exit→Act→World→Prop} {a:Act} {i i2:Nat} {o:Oper} {Fs:List (Value→World→Value→Nat→Prop)} (hR:∀W W' cs t,Sub W W'→R W cs t→R W' cs t) (s x:Operand) (t:TypeId)
  (hg:o.guard=none) (ho:o.op=.call { callee:=.builtin .append,args:=#[s,x],argTypes:=#[t,t] }) (hF:nth Fs i=AppF 0)
  (hown:Own R e size M X wr v0 l) {z:Value} {bytes:Nat} (ht:P.underlying t=some (.slice e)) (hi:(P.info? e).map (fun i=>(i.zero,i.size,i.bytes))=some (some z,size,bytes)) (hzs:z.cells.size=size) (hsz:0<size)
  (hM:M≤wr.heap.size) (hXB:∀b,X=some b→b<wr.heap.size) (hn:l.length+1≤1000000) (hby:bytes≤1000)
  (h:∀(ρ:Operand→Value) (u:Nat→Value) (L:Nat→Prop) (w:World) (r:Value) (k:Nat),
   (∀d j,slotAt ops.toList j=some d→ρ (.tmp d)=u j)→(∀d,(slots ops.toList).contains d=false→ρ (.tmp d)=a.eval (.tmp d))→
   (∀j,edge ops.toList i j=true→L j)→(∀j j',edge ops.toList j j'=true→L j→L j')→
   (∀j,L j→nth Fs j (u j) w r k)→k=0→ρ s=v0∧∃y,ρ x=y∧BoxF R e size wr.heap.size p y w r k):OpOk P Q ops a [i,i2] (PushI R e size M X wr v0 l p bx j) PushM (nth Fs) i o:=by
 intro ρ u L w r k h1 h2 h3 h4 h5 h6 h7 h8 h9 H2 H0 H1 K hK
 obtain rfl:k=0:=by
  have:=H0 i 0 rfl
  have H3:¬0<k:=fun hlt=>h8 (this.2 hlt)
  omega
 obtain⟨hs,y,hy,hbox⟩:=h ρ u L w r 0 h1 h2 h6 h7 h9 rfl
 obtain⟨kb,cf,c,rfl,hkb,hcl,hone,hr⟩:=hbox rfl
 rw[zdyZ (by simp)]at hK
 unfold guarded
 rw[hg]
 have hb:Below wr.heap.size wr w:=H1
 refine zuuZ hR s x t ho (hown.go hR hb) rfl ht hi hzs hsz hs rfl hy hkb hcl hone hr hM hb.size hXB (fun b hb'=>(hown.lt b hb').2) hn hby fun A' c' w' hown' hgr=>?_
 refine hK.o _ w' (.slice A' (l.length+1) c') ⟨by omega,fun e=>by omega,fun e=>by omega⟩ ⟨A',c',w,rfl,hb,hown',hgr⟩ ?_
 rw[hF]
 exact⟨Nat.le_refl _,fun _=>rfl⟩
theorem OpOk.pushStore {P:Program} {ops:Array Oper} {Q:Exit→Act→World→Prop} {a:Act} {i i2:Nat} {o:Oper} {Fs:List (Value→World→Value→Nat→Prop)} (hne:i≠i2) (hg:o.guard=none) (he:edge ops.toList i2 i=true) (hF1:nth Fs i=AppF 0) (hF:nth Fs i2=Early fun _ _=>True)
  (h:∀(ρ:Operand→Value) (u:Nat→Value) (L:Nat→Prop) (w:World) (r:Value),
   (∀d j,slotAt ops.toList j=some d→ρ (.tmp d)=u j)→(∀d,(slots ops.toList).contains d=false→ρ (.tmp d)=a.eval (.tmp d))→
   (∀j,edge ops.toList i2 j=true→L j)→(∀j,L j→nth Fs j (u j) w r 1)→u i=r→PushI R e size M X wr v0 l p bx j 1 w r→(∃A c,r=.slice A (l.length+1) c)→
   ∀K:Value→World→Prop,Hid (∀x,K x (w.setCell ⟨bx,j,none⟩ r))→opWp P o ρ w K):OpOk P Q ops a [i,i2] (PushI R e size M X wr v0 l p bx j) PushM (nth Fs) i2 o:=by
 intro ρ u L w r k h1 h2 h3 h4 h5 h6 h7 h8 h9 H4 H1 H0 K hK
 have H2:=H1 i 0 rfl
 have H3:=H1 i2 1 rfl
 have hLi:=h6 i he
 obtain rfl:k=1:=by
  have a1:=H2.1 hLi
  have a2:¬1<k:=fun hlt=>h8 (H3.2 hlt)
  omega
 have ha:=h9 i hLi
 rw[hF1]at ha
 obtain⟨A,c,W9,hr,hb,hown,hgr⟩:=id H0
 rw[zdyZ (by simp)]at hK
 unfold guarded
 rw[hg]
 refine h ρ u L w r h1 h2 h6 h9 (ha.2 rfl).symm H0 ⟨A,c,hr⟩ K (zh fun x=>?_)
 refine hK.o x _ r ⟨by omega,fun e=>by omega,fun e=>by omega⟩ ⟨A,c,W9,w,hr,hb,hown,hgr,rfl⟩ ?_
 rw[hF]
 exact fun _=>trivial
end
end Go.Proofs.YtdncljdfmdgdaaaGreatDoor
namespace Go.Proofs.YtdncljdfmdgdaaaGreatDoor
open Go.RowKit Go.Shelf
attribute [local go_sem] opWp zbaZ zbcZ zbbZ
structure OwnEx (L:Nat) (W:World) (c0 c1 c2:Array Value) (w:World):Prop where
 b:Below L W w
 k0:w.heap[L]? =some (.cells c0 39 (0,0))
 k1:w.heap[L+1]? =some (.cells c1 39 (0,0))
 k2:w.heap[L+1+1]? =some (.cells c2 39 (0,0))
theorem OwnEx.go {L:Nat} {W w w':World} {c0 c1 c2:Array Value} (h:OwnEx L W c0 c1 c2 w) (hb:Below w.heap.size w w'):OwnEx L W c0 c1 c2 w':=
 have hl:=zaZ h.k2
 ⟨h.b.trans (hb.mono (by omega)),(hb.block _ (by omega)).trans h.k0,(hb.block _ (by omega)).trans h.k1,(hb.block _ hl).trans h.k2⟩
theorem OwnEx.grown {L:Nat} {W w w':World} {c0 c1 c2:Array Value} (h:OwnEx L W c0 c1 c2 w) {r:Option Nat} (hg:w.grownBy w' r) (hr:∀j,r=some j→L+1+1+1≤j):OwnEx L W c0 c1 c2 w':=
 have hl:=zaZ h.k2
 ⟨h.b.grown hg (by omega) (fun j e=>by have:=hr j e;omega),(hg.block _ (by omega) (fun e=>by have:=hr _ e.symm;omega)).trans h.k0,(hg.block _ (by omega) (fun e=>by have:=hr _ e.symm;omega)).trans h.k1,(hg.block _ hl (fun e=>by have:=hr _ e.symm;omega)).trans h.k2⟩
theorem OwnEx.set {L:Nat} {W w:World} {c0 c1 c2:Array Value} (h:OwnEx L W c0 c1 c2 w) (j:Nat) (v:Value):OwnEx L W c0 c1 (c2.setIfInBounds j v) (w.setCell ⟨L+1+1,j,none⟩ v):=
 ⟨h.b.setCell (by simp;omega) v,(Below.heap_setCell _ _ _ _ (by simp;omega)).trans h.k0,(Below.heap_setCell _ _ _ _ (by simp)).trans h.k1,heap_setCell_same _ _ _ _ _ _ h.k2⟩
theorem OwnEx.lt {L:Nat} {W w:World} {c0 c1 c2:Array Value} (h:OwnEx L W c0 c1 c2 w):L<w.heap.size∧L+1<w.heap.size∧L+1+1<w.heap.size:=⟨zaZ h.k0,zaZ h.k1,zaZ h.k2⟩
theorem OwnEx.push {α:Type} {R:World→List Value→α→Prop} (hR:∀W W' cs t,Sub W W'→R W cs t→R W' cs t) {L M e size j:Nat} {W wr w7 W9 w9:World} {c0 c1 c2:Array Value} {v0 v9:Value} {l:List α} (hs:OwnEx L W c0 c1 c2 wr)
  (hq:∀gg,L+1+1+1≤gg→gg<M→wr.heap[gg]? =w7.heap[gg]?) (hrl:∀b,v0.ownBlock=some b→M≤b∧b<wr.heap.size) (hM:L+1+1+1≤M) (hMw:M≤wr.heap.size) (hb:Below wr.heap.size wr W9) (hown:Own R e size M none w9 v9 l) (hgr:W9.grownBy w9 v0.ownBlock) :
  OwnEx L W c0 c1 (c2.setIfInBounds j v9) (w9.setCell ⟨L+1+1,j,none⟩ v9)∧(∀gg,L+1+1+1≤gg→gg<M→(w9.setCell ⟨L+1+1,j,none⟩ v9).heap[gg]? =w7.heap[gg]?)∧Own R e size M none (w9.setCell ⟨L+1+1,j,none⟩ v9) v9 l∧M≤(w9.setCell ⟨L+1+1,j,none⟩ v9).heap.size:=by
 have H1:=(hs.go hb).grown hgr (fun j e=>by have:=(hrl j e).1;omega)
 have H0:∀gg,gg≠L+1+1→(w9.setCell ⟨L+1+1,j,none⟩ v9).heap[gg]? =w9.heap[gg]? :=fun gg h=>Below.heap_setCell _ _ _ _ h
 refine⟨H1.set j _,fun gg h1 h2=>?_,?_,?_⟩
 ·rw[H0 gg (by omega),hgr.block gg (by have:=hb.size;omega) (fun e=>by have:=(hrl gg e.symm).1;omega),hb.block gg (by omega)]
  exact hq gg h1 h2
 ·exact hown.keep hR fun gg _ h _=>H0 gg (by omega)
 ·have:=hb.size
  have:=hgr.size
  simp[World.setCell]
  omega
theorem zcmZ {w:World} {g t:Nat} {cs:Array Value} (h:w.heap[g]? =some (.cells cs t (0,0))):w.frozen? ⟨g,0,none⟩=false∧w.frozen? ⟨g,1,none⟩=false∧w.frozen? ⟨g,2,none⟩=false∧w.frozen? ⟨g,3,none⟩=false∧w.frozen? ⟨g,4,none⟩=false∧w.frozen? ⟨g,5,none⟩=false∧w.frozen? ⟨g,6,none⟩=false:=
 ⟨ztZ h 0,ztZ h 1,ztZ h 2,ztZ h 3,ztZ h 4,ztZ h 5,ztZ h 6⟩
theorem Sub.since_set2 {L j:Nat} {w:World} {v:Value} : Sub (only w (since (L+1+1+1))) (only (w.setCell ⟨L+1+1,j,none⟩ v) (since (L+1+1+1))):=Sub.since_keep fun g _ hB=>Below.heap_setCell _ _ _ _ (by simp;omega)
theorem zwnZ:(Tryz.prog.info? 39).map (fun i=>(i.zero,i.size,i.bytes))=some (some (.agg #[.int .i64 0,.int .i64 0,.int .i64 0,.string ⟨#[]⟩,.slice none 0 0,.slice none 0 0,.slice none 0 0]),7,112):=by kernel_rfl
theorem IsEx.made2 {w:World} {pos k n:Int} {s:Lx.Bytes} {vt vn vp:Value} {t:List Sx.Ty} {ns:List Lx.Bytes} {ps:List Sx.Ex} (h1:TyRow w vt t) (h2:StrRow w vn ns) (h3:ExRow w vp ps) (hn0:-9223372036854775808≤n) (hn1:n≤9223372036854775807) :
  IsEx w (.agg #[.int .i64 pos,.int .i64 k,.int .i64 n,.string ⟨s.toArray⟩,vt,vn,vp]) (.mk pos k n s t ns ps):=by
 obtain⟨A,c,rfl,hc,hl⟩:=h3
 rw[IsEx]
 exact⟨vt,vn,A,c,rfl,h1,h2,hc,hl,hn0,hn1⟩
theorem Own.tys_since {e L:Nat} {w:World} {v:Value} {l:List Sx.Ty} (h:Own RTy e 5 L none w v l):TyRow (only w (since L)) v l:=h.tys.sub (zxZ fun g hg hs=>⟨zvZ.2 (zbiZ.1 hs).1,rfl⟩)
theorem Own.exs_since {e L:Nat} {w:World} {v:Value} {l:List Sx.Ex} (h:Own REx e 7 L none w v l):ExRow (only w (since L)) v l:=h.exs.sub (zxZ fun g hg hs=>⟨zvZ.2 (zbiZ.1 hs).1,rfl⟩)
def OwnXOk (x:Sx.Ex):Prop:=∀(v:Value) (W:World),IsEx W v x→
 Calls Tryz.prog 32 #[v] W fun e W'=>∃v',e=.returned v'∧IsEx (only W' (since W.heap.size)) v' x∧Below W.heap.size W W'
theorem zqgZ (x:Sx.Ex) (hsz:Sx.sizeX x≤1000000) (ih:∀p∈x.parts,OwnXOk p):OwnXOk x:=by
 intro v W ht
 obtain⟨At,ct,An,cn,Ap,cp,rfl,htt,hnm,hp,J2,Ht⟩:=ht.agg
 have J5:=Sx.sizeX_parts x
 have J9:=Sx.length_sizeXs x.parts
 have J4:=Sx.length_size x.t
 obtain⟨nl,hnl⟩:=zE (x.names.length)
 obtain⟨tl,htl⟩:=zE (x.t.length)
 obtain⟨k,hk⟩:=zE (x.parts.length)
 obtain⟨ps,hps⟩:=zE (x.pos)
 obtain⟨kd,hkd⟩:=zE (x.kind)
 obtain⟨nn,hnn⟩:=zE (x.n)
 obtain⟨nm,hnmm⟩:=zE (x.s)
 rw[hnl]at hnm J5
 rw[htl]at htt J4
 rw[hk]at hp J9
 rw[hnn]at J2 Ht
 rw[hps,hkd,hnn,hnmm,hnl,htl,hk]
 have n1:nl≤1000000:=by omega
 have k0:(0:Int)≤(k:Int):=by omega
 have k1:(k:Int)≤1000000:=by omega
 have t0:(0:Int)≤(tl:Int):=by omega
 have t1:(tl:Int)≤1000000:=by omega
 obtain⟨L,hL⟩:=zE (W.heap.size)
 have Jk:=zh hnm
 have HT:=zh htt
 have HP:=zh hp
 have Jf:=zh ih
 have HK:=zh hk
 have Jb:=zh htl
 have Ja:=zh (show k≤1000000∧tl≤1000000 by omega)
 have HL:=zh hL
 have Jr:=zh (show ∀p∈x.t,Sx.size p≤1000000 from fun p hp=>by have:=Sx.size_mem hp;omega)
 have Hn:=zh (And.intro J2 Ht)
 have Jn:=zh (show x=.mk ps kd nn nm x.t x.names x.parts by cases x;subst hps hkd hnn hnmm;rfl)
 clear hnm hp htt ih hk htl hps hkd hnn hnmm hnl J5 J9 J4 hsz ht J2 Ht
 go_enter Tryz.func32, Tryz.ntmps32
 go_upto_region 2 with(fail)
 obtain⟨w3,hw3⟩:=zE ((((W.alloc (.cells #[.int .i64 ps,.int .i64 kd,.int .i64 nn,.string ⟨nm.toArray⟩,.slice At tl ct,.slice An nl cn,.slice Ap k cp] 39)).alloc (.cells #[.int .i64 0,.int .i64 0,.int .i64 0,.string ⟨#[]⟩,.slice none 0 0,.slice none 0 0,.slice none 0 0] 39)).alloc (.cells #[.int .i64 0,.int .i64 kd,.int .i64 nn,.string ⟨nm.toArray⟩,.slice none 0 0,.slice none 0 0,.slice none 0 0] 39)))
 rw[hw3]
 have Jc:OwnEx L W #[.int .i64 ps,.int .i64 kd,.int .i64 nn,.string ⟨nm.toArray⟩,.slice At tl ct,.slice An nl cn,.slice Ap k cp] #[.int .i64 0,.int .i64 0,.int .i64 0,.string ⟨#[]⟩,.slice none 0 0,.slice none 0 0,.slice none 0 0] #[.int .i64 0,.int .i64 kd,.int .i64 nn,.string ⟨nm.toArray⟩,.slice none 0 0,.slice none 0 0,.slice none 0 0] w3:=by
  subst hL
  refine⟨?_,?_,?_,?_⟩
  ·rw[←hw3]
   exact(((Below.refl _ W).alloc (Nat.le_refl _) _).alloc (by simp) _).alloc (by simp;omega) _
  ·rw[←hw3]
   exact heap_alloc (heap_alloc (heap_alloc_new W _) _) _
  ·rw[←hw3]
   have:=heap_alloc_new (W.alloc (.cells #[.int .i64 ps,.int .i64 kd,.int .i64 nn,.string ⟨nm.toArray⟩,.slice At tl ct,.slice An nl cn,.slice Ap k cp] 39)) (.cells #[.int .i64 0,.int .i64 0,.int .i64 0,.string ⟨#[]⟩,.slice none 0 0,.slice none 0 0,.slice none 0 0] 39)
   rw[show(W.alloc (.cells #[.int .i64 ps,.int .i64 kd,.int .i64 nn,.string ⟨nm.toArray⟩,.slice At tl ct,.slice An nl cn,.slice Ap k cp] 39)).heap.size=W.heap.size+1 by simp]at this
   exact heap_alloc this _
  ·rw[←hw3]
   have:=heap_alloc_new ((W.alloc (.cells #[.int .i64 ps,.int .i64 kd,.int .i64 nn,.string ⟨nm.toArray⟩,.slice At tl ct,.slice An nl cn,.slice Ap k cp] 39)).alloc (.cells #[.int .i64 0,.int .i64 0,.int .i64 0,.string ⟨#[]⟩,.slice none 0 0,.slice none 0 0,.slice none 0 0] 39)) (.cells #[.int .i64 0,.int .i64 kd,.int .i64 nn,.string ⟨nm.toArray⟩,.slice none 0 0,.slice none 0 0,.slice none 0 0] 39)
   rw[show((W.alloc (.cells #[.int .i64 ps,.int .i64 kd,.int .i64 nn,.string ⟨nm.toArray⟩,.slice At tl ct,.slice An nl cn,.slice Ap k cp] 39)).alloc (.cells #[.int .i64 0,.int .i64 0,.int .i64 0,.string ⟨#[]⟩,.slice none 0 0,.slice none 0 0,.slice none 0 0] 39)).heap.size=W.heap.size+1+1 by simp]at this
   exact this
 have Hm:w3.heap.size=L+1+1+1:=by rw[←hw3,←hL];simp
 have Hk:=zh Jc
 have Ju:=zh Hm
 clear hw3 Jc Hm
 obtain⟨x0,x1,x2,x3,x4,x5,x6⟩:=zbZ Hk.o.k0
 obtain⟨f0,f1,f2,f3,f4,f5,f6⟩:=zcmZ Hk.o.k2
 obtain⟨y0,y1,y2,y3,y4,y5,y6⟩:=zbZ Hk.o.k2
 obtain⟨l1,l2,l3⟩:=Hk.o.lt
 go_upto_region 3 with fail
 obtain⟨w4,hw4⟩:=zE (w3.setCell ⟨L+1+1,0,none⟩ (.int .i64 ps))
 rw[hw4]
 have Hx:=Hk.o.set 0 (.int .i64 ps)
 rw[hw4]at Hx
 have HS:=zh (show OwnEx L W #[.int .i64 ps,.int .i64 kd,.int .i64 nn,.string ⟨nm.toArray⟩,.slice At tl ct,.slice An nl cn,.slice Ap k cp] #[.int .i64 0,.int .i64 0,.int .i64 0,.string ⟨#[]⟩,.slice none 0 0,.slice none 0 0,.slice none 0 0] #[.int .i64 ps,.int .i64 kd,.int .i64 nn,.string ⟨nm.toArray⟩,.slice none 0 0,.slice none 0 0,.slice none 0 0] w4 from Hx)
 have Hq:=zh (show w4.heap.size=L+1+1+1 by rw[←hw4];simp[World.setCell];exact Ju.o)
 clear hw4 Hx x0 x1 x2 x3 x4 x5 x6 y0 y1 y2 y3 y4 y5 y6 f0 f1 f2 f3 f4 f5 f6 l1 l2 l3
 obtain⟨x0,x1,x2,x3,x4,x5,x6⟩:=zbZ HS.o.k0
 obtain⟨y0,y1,y2,y3,y4,y5,y6⟩:=zbZ HS.o.k2
 obtain⟨l1,l2,l3⟩:=HS.o.lt
 go_upto_region 4 with(first
  | (at_builtin;refine zdbZ rfl _ _ rfl rfl rfl (Jk.o.below (by rw[HL.o];exact HS.o.b)) n1 ?_;intro AN cN w5 Hu Hc;have Ho:=HS.o.go Hc;obtain⟨m1,m2,m3⟩:=Ho.lt;obtain⟨f0,f1,f2,f3,f4,f5,f6⟩:=zcmZ Ho.k2;obtain⟨q0,q1,q2,q3,q4,q5,q6⟩:=zbZ Ho.k2))
 obtain⟨w7,hw7⟩:=zE (w5.setCell ⟨L+1+1,5,none⟩ (.slice AN nl cN))
 rw[hw7]
 have Hl:=Ho.set 5 (.slice AN nl cN)
 rw[hw7]at Hl
 have J8:StrRow (only w7 (since (L+1+1+1))) (.slice AN nl cN) x.names:=by
  rw[Hq.o]at Hu
  rw[←hw7]
  exact Hu.sub Sub.since_set2
 have J3:L+1+1+1≤w7.heap.size:=by have:=Hc.size;have:=Hq.o;rw[←hw7];simp[World.setCell];omega
 have Jl:=zh (show OwnEx L W #[.int .i64 ps,.int .i64 kd,.int .i64 nn,.string ⟨nm.toArray⟩,.slice At tl ct,.slice An nl cn,.slice Ap k cp] #[.int .i64 0,.int .i64 0,.int .i64 0,.string ⟨#[]⟩,.slice none 0 0,.slice none 0 0,.slice none 0 0] #[.int .i64 ps,.int .i64 kd,.int .i64 nn,.string ⟨nm.toArray⟩,.slice none 0 0,.slice AN nl cN,.slice none 0 0] w7 from Hl)
 have Jm:=zh J8
 clear Ho Hl Hu J8 Hc hw7 f0 f1 f2 f3 f4 f5 f6 q0 q1 q2 q3 q4 q5 q6 m1 m2 m3 x0 x1 x2 x3 x4 x5 x6 y0 y1 y2 y3 y4 y5 y6 l1 l2 l3
 go_wp2_with fail
 obtain⟨M,hM⟩:=zE (w7.heap.size)
 have HM:=zh hM
 rw[hM]at J3
 have Hr:=zh J3
 clear hM
 go_loopg [4] tl (fun i v wr=>∃(m:Nat) (A:Option Addr) (c:Nat),i=tl-m∧v=.int .i64 (m:Nat)∧m≤tl∧OwnEx L W #[.int .i64 ps,.int .i64 kd,.int .i64 nn,.string ⟨nm.toArray⟩,.slice At tl ct,.slice An nl cn,.slice Ap k cp] #[.int .i64 0,.int .i64 0,.int .i64 0,.string ⟨#[]⟩,.slice none 0 0,.slice none 0 0,.slice none 0 0] #[.int .i64 ps,.int .i64 kd,.int .i64 nn,.string ⟨nm.toArray⟩,.slice A m c,.slice AN nl cN,.slice none 0 0] wr∧
   (∀gg,L+1+1+1≤gg→gg<M→wr.heap[gg]? =w7.heap[gg]?)∧Own RTy 26 5 M none wr (.slice A m c) (x.t.take m)∧M≤wr.heap.size)
 case atStart=>exact⟨0,none,0,rfl,rfl,Nat.zero_le _,Jl.o,fun _ _ _=>rfl,Own.nil,Nat.le_of_eq HM.o.symm⟩
 case round=>
  obtain⟨m,A,c,hi,rfl,hm,hs,hq,ho,hz⟩:=hrel
  have HI:=zh hi
  have H4:=zh hs
  have Hi:=zh hq
  have HO:=zh ho
  have HZ:=zh hz
  have m0:(0:Int)≤(m:Int):=by omega
  clear hi hs hq ho
  obtain⟨x0,x1,x2,x3,x4,x5,x6⟩:=zbZ H4.o.k0
  obtain⟨y0,y1,y2,y3,y4,y5,y6⟩:=zbZ H4.o.k2
  obtain⟨l1,l2,l3⟩:=H4.o.lt
  by_cases hlt:m<tl
  ·have Hy:(m:Int)<(tl:Int):=by omega
   have Jj:IntKind.i64.wrap ((m:Int)+1)=(m:Int)+1:=by rw[IntKind.wrap_i64];omega
   have Hd:m<x.t.length:=by have:=Jb.o;omega
   obtain⟨g,off,An1,cn1,Ae1,ce1,Aq,cq,rfl,hty,hc5⟩:=HT.o.spot m Hd
   rw[HL.o]at hc5
   have Hh:=zh hc5
   have Hg:=zh (List.take_succ_eq_append_getElem Hd)
   have Hj:=zh (show(x.t.take m).length=m by rw[List.length_take];omega)
   have Ha:=List.getElem_mem Hd
   obtain⟨p,hpe⟩:=zE (x.t[m]'Hd)
   rw[hpe]at Hh hty Ha Hg
   have J0:=zh (fun X (hX:Below wr.heap.size wr X)=>zmeZ 1000000 p (Jr.o p Ha) (Nat.le_refl _) _ X (IsTy.below (by rw[HL.o];exact(H4.o.go hX).b) _ _ hty))
   have Jo:=zh hlt
   clear Ha hpe hty hc5
   have Hf:=zh (fun b (e:(Value.slice A m c).ownBlock=some b)=>Own.lt HO.o b e)
   obtain⟨lm,hlm⟩:=zE (x.t.take m)
   rw[hlm]at HO Hj Hg
   go_upto_region 7 with(fail)
   clear x0 x1 x2 x3 x4 x5 x6 y0 y1 y2 y3 y4 y5 y6 l1 l2 l3
   obtain⟨Fs,hFs⟩:∃F:List (Value→World→Value→Nat→Prop),[IsF (.pointer (some ⟨L+1+1,4,none⟩)),IsF (.slice A m c),IsF (.pointer (some ⟨L,4,none⟩)),IsF (.slice (some ⟨g,off,none⟩) tl ct),IsF (.int .i64 (m:Int)),IsF (.pointer (some ⟨g,off+m * 5,none⟩)),IsF (.agg #[.int .i64 p.kind,.string ⟨p.name.toArray⟩,.slice An1 p.names.length cn1,.slice Ae1 p.embeds.length ce1,.slice Aq p.parts.length cq]),TreeF IsTy wr.heap.size p,BoxF RTy 26 5 wr.heap.size p,AppF 0,IsF (.pointer (some ⟨L+1+1,4,none⟩)),Early fun _ _=>True]=F:=⟨_,rfl⟩
   have F0:nth Fs 0=IsF (.pointer (some ⟨L+1+1,4,none⟩)):=by rw[←hFs];rfl
   have F1:nth Fs 1=IsF (.slice A m c):=by rw[←hFs];rfl
   have F2:nth Fs 2=IsF (.pointer (some ⟨L,4,none⟩)):=by rw[←hFs];rfl
   have F3:nth Fs 3=IsF (.slice (some ⟨g,off,none⟩) tl ct):=by rw[←hFs];rfl
   have F4:nth Fs 4=IsF (.int .i64 (m:Int)):=by rw[←hFs];rfl
   have F5:nth Fs 5=IsF (.pointer (some ⟨g,off+m * 5,none⟩)):=by rw[←hFs];rfl
   have F6:nth Fs 6=IsF (.agg #[.int .i64 p.kind,.string ⟨p.name.toArray⟩,.slice An1 p.names.length cn1,.slice Ae1 p.embeds.length ce1,.slice Aq p.parts.length cq]):=by rw[←hFs];rfl
   have F7:nth Fs 7=TreeF IsTy wr.heap.size p:=by rw[←hFs];rfl
   have F8:nth Fs 8=BoxF RTy 26 5 wr.heap.size p:=by rw[←hFs];rfl
   have F9:nth Fs 9=AppF 0:=by rw[←hFs];rfl
   have F10:nth Fs 10=IsF (.pointer (some ⟨L+1+1,4,none⟩)):=by rw[←hFs];rfl
   have F11:nth Fs 11=Early fun _ _=>True:=by rw[←hFs];rfl
   have H8:AllStay PushM Fs:=by rw[←hFs];exact AllStay.cons IsF.stays (AllStay.cons IsF.stays (AllStay.cons IsF.stays (AllStay.cons IsF.stays (AllStay.cons IsF.stays (AllStay.cons IsF.stays (AllStay.cons IsF.stays (AllStay.cons (TreeF.stays (fun W W2 x hs h=>IsTy.sub hs _ _ h)) (AllStay.cons (BoxF.stays RTy.sub) (AllStay.cons AppF.staysP (AllStay.cons IsF.stays (AllStay.cons (Early.stays fun _ _ _ _ h=>h) (AllStay.nil))))))))))))
   clear hFs
   refine zoZ (by kernel_rfl) [9,11] (PushI RTy 26 5 M none wr (.slice A m c) (lm) p (L+1+1) 4) PushM Fs undef (by kernel_rfl) (by kernel_rfl) (by kernel_rfl) (by kernel_rfl) (by kernel_rfl) H8 (n:=12) (by kernel_rfl) (show Below _ _ _ from Below.drewN (Below.refl _ _) 1) ?_ ?_
   ·refine OpsOk.cons ?_ (OpsOk.cons ?_ (OpsOk.cons ?_ (OpsOk.cons ?_ (OpsOk.cons ?_ (OpsOk.cons ?_ (OpsOk.cons ?_ (OpsOk.cons ?_ (OpsOk.cons ?_ (OpsOk.cons ?_ (OpsOk.cons ?_ (OpsOk.cons ?_ (OpsOk.nil))))))))))))
    ·
     refine OpOk.plain (by kernel_rfl) rfl ?_
     intro ρ uq Lq wq rq kq hs H3 H5 H1 H0 hL hC hN hF hU H2 hI K hK
     obtain rfl:kq=0:=by
      cases kq with
      | zero=>rfl
      | succ q=>
       have h:=(H2 9 0 rfl).2 (Nat.succ_pos q)
       exact absurd (hC 1 0 (by kernel_rfl) (hC 9 1 (by kernel_rfl) (h))) hN
     have H6:Below wr.heap.size wr wq:=hI
     have e3:ρ (.tmp 3)=.pointer (some ⟨L+1+1,0,none⟩):=H3 3 (by kernel_rfl)
     clear hs H3 H1 H0 hL hC hN hF hU H2
     obtain⟨y0,y1,y2,y3,y4,y5,y6⟩:=zbZ (H4.o.go H6).k2
     obtain⟨l1,l2,l3⟩:=(H4.o.go H6).lt
     go_simp
     exact hK.o _ _ rq PushM.refl hI (zuZ F0 rfl)
    ·
     refine OpOk.plain (by kernel_rfl) rfl ?_
     intro ρ uq Lq wq rq kq hs H3 H5 H1 H0 hL hC hN hF hU H2 hI K hK
     obtain rfl:kq=0:=by
      cases kq with
      | zero=>rfl
      | succ q=>
       have h:=(H2 9 0 rfl).2 (Nat.succ_pos q)
       exact absurd (hC 9 1 (by kernel_rfl) (h)) hN
     have H6:Below wr.heap.size wr wq:=hI
     have e31:ρ (.tmp 31)=.pointer (some ⟨L+1+1,4,none⟩):=(hs 31 0 (by kernel_rfl)).trans (zmZ F0 (hF 0 (hL 0 (by kernel_rfl))))
     clear hs H3 H1 H0 hL hC hN hF hU H2
     obtain⟨y0,y1,y2,y3,y4,y5,y6⟩:=zbZ (H4.o.go H6).k2
     obtain⟨l1,l2,l3⟩:=(H4.o.go H6).lt
     go_simp
     exact hK.o _ _ rq PushM.refl hI (zuZ F1 rfl)
    ·
     refine OpOk.plain (by kernel_rfl) rfl ?_
     intro ρ uq Lq wq rq kq hs H3 H5 H1 H0 hL hC hN hF hU H2 hI K hK
     obtain rfl:kq=0:=by
      cases kq with
      | zero=>rfl
      | succ q=>
       have h:=(H2 9 0 rfl).2 (Nat.succ_pos q)
       exact absurd (hC 3 2 (by kernel_rfl) (hC 5 3 (by kernel_rfl) (hC 6 5 (by kernel_rfl) (hC 7 6 (by kernel_rfl) (hC 8 7 (by kernel_rfl) (hC 9 8 (by kernel_rfl) (h))))))) hN
     have H6:Below wr.heap.size wr wq:=hI
     have e1:ρ (.tmp 1)=.pointer (some ⟨L,0,none⟩):=H3 1 (by kernel_rfl)
     clear hs H3 H1 H0 hL hC hN hF hU H2
     obtain⟨x0,x1,x2,x3,x4,x5,x6⟩:=zbZ (H4.o.go H6).k0
     obtain⟨l1,l2,l3⟩:=(H4.o.go H6).lt
     go_simp
     exact hK.o _ _ rq PushM.refl hI (zuZ F2 rfl)
    ·
     refine OpOk.plain (by kernel_rfl) rfl ?_
     intro ρ uq Lq wq rq kq hs H3 H5 H1 H0 hL hC hN hF hU H2 hI K hK
     obtain rfl:kq=0:=by
      cases kq with
      | zero=>rfl
      | succ q=>
       have h:=(H2 9 0 rfl).2 (Nat.succ_pos q)
       exact absurd (hC 5 3 (by kernel_rfl) (hC 6 5 (by kernel_rfl) (hC 7 6 (by kernel_rfl) (hC 8 7 (by kernel_rfl) (hC 9 8 (by kernel_rfl) (h)))))) hN
     have H6:Below wr.heap.size wr wq:=hI
     have e33:ρ (.tmp 33)=.pointer (some ⟨L,4,none⟩):=(hs 33 2 (by kernel_rfl)).trans (zmZ F2 (hF 2 (hL 2 (by kernel_rfl))))
     clear hs H3 H1 H0 hL hC hN hF hU H2
     obtain⟨x0,x1,x2,x3,x4,x5,x6⟩:=zbZ (H4.o.go H6).k0
     obtain⟨l1,l2,l3⟩:=(H4.o.go H6).lt
     go_simp
     exact hK.o _ _ rq PushM.refl hI (zuZ F3 rfl)
    ·
     refine OpOk.plain (by kernel_rfl) rfl ?_
     intro ρ uq Lq wq rq kq hs H3 H5 H1 H0 hL hC hN hF hU H2 hI K hK
     obtain rfl:kq=0:=by
      cases kq with
      | zero=>rfl
      | succ q=>
       have h:=(H2 9 0 rfl).2 (Nat.succ_pos q)
       exact absurd (hC 5 4 (by kernel_rfl) (hC 6 5 (by kernel_rfl) (hC 7 6 (by kernel_rfl) (hC 8 7 (by kernel_rfl) (hC 9 8 (by kernel_rfl) (h)))))) hN
     have H6:Below wr.heap.size wr wq:=hI
     have e4:ρ (.tmp 4)=.int .i64 (m:Int):=H3 4 (by kernel_rfl)
     exact znZ (.tmp 4) rfl e4 (hK.o _ _ rq PushM.refl hI (zuZ F4 rfl))
    ·
     refine OpOk.plain (by kernel_rfl) rfl ?_
     intro ρ uq Lq wq rq kq hs H3 H5 H1 H0 hL hC hN hF hU H2 hI K hK
     obtain rfl:kq=0:=by
      cases kq with
      | zero=>rfl
      | succ q=>
       have h:=(H2 9 0 rfl).2 (Nat.succ_pos q)
       exact absurd (hC 6 5 (by kernel_rfl) (hC 7 6 (by kernel_rfl) (hC 8 7 (by kernel_rfl) (hC 9 8 (by kernel_rfl) (h))))) hN
     have H6:Below wr.heap.size wr wq:=hI
     have e34:ρ (.tmp 34)=.slice (some ⟨g,off,none⟩) tl ct:=(hs 34 3 (by kernel_rfl)).trans (zmZ F3 (hF 3 (hL 3 (by kernel_rfl))))
     have e35:ρ (.tmp 35)=.int .i64 (m:Int):=(hs 35 4 (by kernel_rfl)).trans (zmZ F4 (hF 4 (hL 4 (by kernel_rfl))))
     clear hs H3 H1 H0 hL hC hN hF hU H2
     obtain⟨hg,c0,c1,c2,c3,c4⟩:=Hh.o wq (H4.o.go H6).b
     go_simp
     exact hK.o _ _ rq PushM.refl hI (zuZ F5 rfl)
    ·
     refine OpOk.plain (by kernel_rfl) rfl ?_
     intro ρ uq Lq wq rq kq hs H3 H5 H1 H0 hL hC hN hF hU H2 hI K hK
     obtain rfl:kq=0:=by
      cases kq with
      | zero=>rfl
      | succ q=>
       have h:=(H2 9 0 rfl).2 (Nat.succ_pos q)
       exact absurd (hC 7 6 (by kernel_rfl) (hC 8 7 (by kernel_rfl) (hC 9 8 (by kernel_rfl) (h)))) hN
     have H6:Below wr.heap.size wr wq:=hI
     have e36:ρ (.tmp 36)=.pointer (some ⟨g,off+m * 5,none⟩):=(hs 36 5 (by kernel_rfl)).trans (zmZ F5 (hF 5 (hL 5 (by kernel_rfl))))
     clear hs H3 H1 H0 hL hC hN hF hU H2
     obtain⟨hg,c0,c1,c2,c3,c4⟩:=Hh.o wq (H4.o.go H6).b
     go_simp
     exact hK.o _ _ rq PushM.refl hI (zuZ F6 rfl)
    ·
     refine OpOk.plain (by kernel_rfl) rfl ?_
     intro ρ uq Lq wq rq kq hs H3 H5 H1 H0 hL hC hN hF hU H2 hI K hK
     obtain rfl:kq=0:=by
      cases kq with
      | zero=>rfl
      | succ q=>
       have h:=(H2 9 0 rfl).2 (Nat.succ_pos q)
       exact absurd (hC 8 7 (by kernel_rfl) (hC 9 8 (by kernel_rfl) (h))) hN
     have H6:Below wr.heap.size wr wq:=hI
     have e37:ρ (.tmp 37)=.agg #[.int .i64 p.kind,.string ⟨p.name.toArray⟩,.slice An1 p.names.length cn1,.slice Ae1 p.embeds.length ce1,.slice Aq p.parts.length cq]:=(hs 37 6 (by kernel_rfl)).trans (zmZ F6 (hF 6 (hL 6 (by kernel_rfl))))
     clear hs H3 H1 hL hC hN hF hU H2
     refine zcjZ (args:=#[.agg #[.int .i64 p.kind,.string ⟨p.name.toArray⟩,.slice An1 p.names.length cn1,.slice Ae1 p.embeds.length ce1,.slice Aq p.parts.length cq]]) rfl Tryz.func26 (by kernel_rfl) rfl (H0 _) (by simp only[List.map_toArray,List.map_cons,List.map_nil,H5,e37]) ?_
     clear H0 H5 e37
     refine(J0.o wq H6).mono ?_
     rintro e w5 ⟨v5,rfl,J1,Hc⟩
     exact⟨_,rfl,hK.o _ _ rq (PushM.below Hc) (PushI.early hI Hc) (zuZ F7 fun _=>(fun W W2 x hs h=>IsTy.sub hs _ _ h) _ _ _ (Sub.since_mono H6.size) J1)⟩
    ·
     refine OpOk.plain (by kernel_rfl) rfl ?_
     intro ρ uq Lq wq rq kq hs H3 H5 H1 H0 hL hC hN hF hU H2 hI K hK
     obtain rfl:kq=0:=by
      cases kq with
      | zero=>rfl
      | succ q=>
       have h:=(H2 9 0 rfl).2 (Nat.succ_pos q)
       exact absurd (hC 9 8 (by kernel_rfl) (h)) hN
     have H6:Below wr.heap.size wr wq:=hI
     have e38:ρ (.tmp 38)=uq 7:=hs 38 7 (by kernel_rfl)
     have p38:=zmZ F7 (hF 7 (hL 7 (by kernel_rfl))) rfl
     obtain⟨B1,d1,B2,d2,B3,d3,hve,-⟩:=IsTy.agg p38
     rw[hve]at e38 p38
     clear hs H3 H1 H0 hL hC hN hF hU H2
     go_simp
     exact hK.o _ _ rq (PushM.below ((Below.refl _ _).alloc (Nat.le_refl _) _)) (PushI.early hI ((Below.refl _ _).alloc (Nat.le_refl _) _)) (zuZ F8 fun _=>⟨_,_,_,rfl,heap_alloc_new wq _,rfl,by simp[Value.oneCell'],⟨_,_,_,_,_,rfl,IsTy.sub (Sub.since_below ((Below.refl _ _).alloc (Nat.le_refl _) _)) _ _ p38⟩⟩)
    ·
     refine OpOk.push RTy.sub (.tmp 32) (.tmp 39) 24 rfl rfl F9 HO.o Tryz.underlying24 zocZ rfl (by decide) HZ.o (fun b e=>nomatch e) (by have:=Hj.o;have:=Ja.o;omega) (by omega) ?_
     intro ρ uq Lq wq rq kq hs H3 hL hC hF hk
     exact⟨(hs 32 1 (by kernel_rfl)).trans (zmZ F1 (hF 1 (hL 1 (by kernel_rfl)))),_,hs 39 8 (by kernel_rfl),zmZ F8 (hF 8 (hL 8 (by kernel_rfl)))⟩
    ·
     refine OpOk.plain (by kernel_rfl) rfl ?_
     intro ρ uq Lq wq rq kq hs H3 H5 H1 H0 hL hC hN hF hU H2 hI K hK
     have Hb:kq<2:=by
      by_cases hk:1<kq
      ·have h:=(H2 11 1 rfl).2 hk
       exact absurd (hC 11 10 (by kernel_rfl) (h)) hN
      ·omega
     have e3:ρ (.tmp 3)=.pointer (some ⟨L+1+1,0,none⟩):=H3 3 (by kernel_rfl)
     clear hs H3 H1 H0 hL hC hN hF hU H2
     have Hv:=(PushI.block hI (g:=L+1+1) H4.o.lt.2.2 (fun e=>by have:=(Hf.o _ e).1;have:=Hr.o;omega) Hb).2
     have Jq:L+1+1<wq.heap.size:=Nat.lt_of_lt_of_le H4.o.lt.2.2 Hv
     go_simp
     exact hK.o _ _ rq PushM.refl hI (zuZ F10 rfl)
    ·
     refine OpOk.pushStore (by decide) rfl (by kernel_rfl) F9 F11 ?_
     intro ρ uq Lq wq rq hs H3 hL hF hu hI hr K hK
     obtain⟨Ar,cr,rfl⟩:=hr
     have e41:ρ (.tmp 41)=.pointer (some ⟨L+1+1,4,none⟩):=(hs 41 10 (by kernel_rfl)).trans (zmZ F10 (hF 10 (hL 10 (by kernel_rfl))))
     have e40:ρ (.tmp 40)=_:=(hs 40 9 (by kernel_rfl)).trans hu
     clear hs H3 hL hF hu
     have Hb:wq.heap[L+1+1]? =wr.heap[L+1+1]? :=(PushI.block hI (g:=L+1+1) H4.o.lt.2.2 (fun e=>by have:=(Hf.o _ e).1;have:=Hr.o;omega) (by decide)).1
     obtain⟨y0,y1,y2,y3,y4,y5,y6⟩:=zbZ (Hb.trans H4.o.k2)
     obtain⟨f0,f1,f2,f3,f4,f5,f6⟩:=zcmZ (Hb.trans H4.o.k2)
     have Jh:=zaZ (Hb.trans H4.o.k2)
     go_simp
     exact hK.o _
   ·intro uq wq rq hI hF
    obtain⟨A9,c9,W9,w9,rfl,hb9,hown9,hgr9,rfl⟩:=hI
    simp only[List.toList_toArray,fillAct,Act.put,List.setIfInBounds_toArray,List.set_cons_zero,List.set_cons_succ]
    clear hF F0 F1 F2 F3 F4 F5 F6 F7 F8 F9 F10 F11 H8
    have H7:=OwnEx.push RTy.sub H4.o Hi.o (fun b e=>Hf.o b e) Hr.o HZ.o hb9 hown9 hgr9 (j:=4)
    rw[Hj.o]at H7 ⊢
    obtain⟨W10,hW10⟩:=zE (w9.setCell ⟨L+1+1,4,none⟩ (.slice A9 (m+1) c9))
    rw[hW10]at H7 ⊢
    rw[←Hg.o]at H7
    have Hw:=zh (show(OwnEx L W #[.int .i64 ps,.int .i64 kd,.int .i64 nn,.string ⟨nm.toArray⟩,.slice (some ⟨g,off,none⟩) tl ct,.slice An nl cn,.slice Ap k cp] #[.int .i64 0,.int .i64 0,.int .i64 0,.string ⟨#[]⟩,.slice none 0 0,.slice none 0 0,.slice none 0 0] #[.int .i64 ps,.int .i64 kd,.int .i64 nn,.string ⟨nm.toArray⟩,.slice A9 (m+1) c9,.slice AN nl cN,.slice none 0 0] W10)∧_ from H7)
    clear hW10 H7 hown9 hgr9 hb9
    go_wp2_with fail
    go_roundg (tl-(m+1))
    case measure=>have:=HI.o;omega
    case rel=>exact⟨m+1,A9,c9,rfl,by simp,hlt,Hw.o⟩
  ·have Hy:¬(m:Int)<(tl:Int):=by omega
   obtain rfl:tl=m:=by omega
   obtain⟨AT,rfl⟩:∃q,q=A:=⟨A,rfl⟩
   obtain⟨cT,rfl⟩:∃q,q=c:=⟨c,rfl⟩
   obtain⟨w8,rfl⟩:∃q,q=wr:=⟨wr,rfl⟩
   have Hp:=List.take_of_length_le (show x.t.length≤tl by have:=Jb.o;omega)
   have H9:=HO.o
   rw[Hp]at H9
   have Jt:=zh H9.tys_since
   have Je:=H4
   clear Hp H9 x0 x1 x2 x3 x4 x5 x6 y0 y1 y2 y3 y4 y5 y6 l1 l2 l3
   obtain⟨x0,x1,x2,x3,x4,x5,x6⟩:=zbZ H4.o.k0
   obtain⟨l1,l2,l3⟩:=H4.o.lt
   go_wp2_with fail
   obtain⟨M2,hM2⟩:=zE (w8.heap.size)
   have J6:=zh hM2
   have Hs:=zh (show L+1+1+1≤M2 by rw[←hM2];exact Nat.le_trans Hr.o HZ.o)
   have Jp:=zh (show M≤M2 by rw[←hM2];exact HZ.o)
   have Ji:=Hi
   clear hM2 x0 x1 x2 x3 x4 x5 x6 l1 l2 l3 HI HO H4 Hi HZ
   go_loopg [5] k (fun i v wr=>∃(m:Nat) (A:Option Addr) (c:Nat),i=k-m∧v=.int .i64 (m:Nat)∧m≤k∧OwnEx L W #[.int .i64 ps,.int .i64 kd,.int .i64 nn,.string ⟨nm.toArray⟩,.slice At tl ct,.slice An nl cn,.slice Ap k cp] #[.int .i64 0,.int .i64 0,.int .i64 0,.string ⟨#[]⟩,.slice none 0 0,.slice none 0 0,.slice none 0 0] #[.int .i64 ps,.int .i64 kd,.int .i64 nn,.string ⟨nm.toArray⟩,.slice AT tl cT,.slice AN nl cN,.slice A m c] wr∧
     (∀gg,L+1+1+1≤gg→gg<M2→wr.heap[gg]? =w8.heap[gg]?)∧Own REx 39 7 M2 none wr (.slice A m c) (x.parts.take m)∧M2≤wr.heap.size)
   case atStart=>exact⟨0,none,0,rfl,rfl,Nat.zero_le _,Je.o,fun _ _ _=>rfl,Own.nil,Nat.le_of_eq J6.o.symm⟩
   case round=>
    obtain⟨m,A,c,hi,rfl,hm,hs,hq,ho,hz⟩:=hrel
    have HI:=zh hi
    have H4:=zh hs
    have Hi:=zh hq
    have HO:=zh ho
    have HZ:=zh hz
    have m0:(0:Int)≤(m:Int):=by omega
    clear hi hs hq ho
    obtain⟨x0,x1,x2,x3,x4,x5,x6⟩:=zbZ H4.o.k0
    obtain⟨y0,y1,y2,y3,y4,y5,y6⟩:=zbZ H4.o.k2
    obtain⟨l1,l2,l3⟩:=H4.o.lt
    by_cases hlt:m<k
    ·have Hy:(m:Int)<(k:Int):=by omega
     have Jj:IntKind.i64.wrap ((m:Int)+1)=(m:Int)+1:=by rw[IntKind.wrap_i64];omega
     have Hd:m<x.parts.length:=by have:=HK.o;omega
     obtain⟨g,off,Atp,ctp,Anp,cnp,App,cpp,rfl,hty,hc5⟩:=HP.o.spot m Hd
     rw[HL.o]at hc5
     have Hh:=zh hc5
     have Hg:=zh (List.take_succ_eq_append_getElem Hd)
     have Hj:=zh (show(x.parts.take m).length=m by rw[List.length_take];omega)
     have Ha:=List.getElem_mem Hd
     obtain⟨p,hpe⟩:=zE (x.parts[m]'Hd)
     rw[hpe]at Hh hty Ha Hg
     have J0:=zh (fun X (hX:Below wr.heap.size wr X)=>Jf.o p Ha _ X (IsEx.below (by rw[HL.o];exact(H4.o.go hX).b) _ _ hty))
     have Jo:=zh hlt
     clear Ha hpe hty hc5
     have Hf:=zh (fun b (e:(Value.slice A m c).ownBlock=some b)=>Own.lt HO.o b e)
     obtain⟨lm,hlm⟩:=zE (x.parts.take m)
     rw[hlm]at HO Hj Hg
     go_upto_region 11 with(fail)
     clear x0 x1 x2 x3 x4 x5 x6 y0 y1 y2 y3 y4 y5 y6 l1 l2 l3
     obtain⟨Fs,hFs⟩:∃F:List (Value→World→Value→Nat→Prop),[IsF (.pointer (some ⟨L+1+1,6,none⟩)),IsF (.slice A m c),IsF (.pointer (some ⟨L,6,none⟩)),IsF (.slice (some ⟨g,off,none⟩) k cp),IsF (.int .i64 (m:Int)),IsF (.pointer (some ⟨g,off+m * 7,none⟩)),IsF (.agg #[.int .i64 p.pos,.int .i64 p.kind,.int .i64 p.n,.string ⟨p.s.toArray⟩,.slice Atp p.t.length ctp,.slice Anp p.names.length cnp,.slice App p.parts.length cpp]),TreeF IsEx wr.heap.size p,BoxF REx 39 7 wr.heap.size p,AppF 0,IsF (.pointer (some ⟨L+1+1,6,none⟩)),Early fun _ _=>True]=F:=⟨_,rfl⟩
     have F0:nth Fs 0=IsF (.pointer (some ⟨L+1+1,6,none⟩)):=by rw[←hFs];rfl
     have F1:nth Fs 1=IsF (.slice A m c):=by rw[←hFs];rfl
     have F2:nth Fs 2=IsF (.pointer (some ⟨L,6,none⟩)):=by rw[←hFs];rfl
     have F3:nth Fs 3=IsF (.slice (some ⟨g,off,none⟩) k cp):=by rw[←hFs];rfl
     have F4:nth Fs 4=IsF (.int .i64 (m:Int)):=by rw[←hFs];rfl
     have F5:nth Fs 5=IsF (.pointer (some ⟨g,off+m * 7,none⟩)):=by rw[←hFs];rfl
     have F6:nth Fs 6=IsF (.agg #[.int .i64 p.pos,.int .i64 p.kind,.int .i64 p.n,.string ⟨p.s.toArray⟩,.slice Atp p.t.length ctp,.slice Anp p.names.length cnp,.slice App p.parts.length cpp]):=by rw[←hFs];rfl
     have F7:nth Fs 7=TreeF IsEx wr.heap.size p:=by rw[←hFs];rfl
     have F8:nth Fs 8=BoxF REx 39 7 wr.heap.size p:=by rw[←hFs];rfl
     have F9:nth Fs 9=AppF 0:=by rw[←hFs];rfl
     have F10:nth Fs 10=IsF (.pointer (some ⟨L+1+1,6,none⟩)):=by rw[←hFs];rfl
     have F11:nth Fs 11=Early fun _ _=>True:=by rw[←hFs];rfl
     have H8:AllStay PushM Fs:=by rw[←hFs];exact AllStay.cons IsF.stays (AllStay.cons IsF.stays (AllStay.cons IsF.stays (AllStay.cons IsF.stays (AllStay.cons IsF.stays (AllStay.cons IsF.stays (AllStay.cons IsF.stays (AllStay.cons (TreeF.stays (fun W W2 x hs h=>IsEx.sub hs _ _ h)) (AllStay.cons (BoxF.stays REx.sub) (AllStay.cons AppF.staysP (AllStay.cons IsF.stays (AllStay.cons (Early.stays fun _ _ _ _ h=>h) (AllStay.nil))))))))))))
     clear hFs
     refine zoZ (by kernel_rfl) [9,11] (PushI REx 39 7 M2 none wr (.slice A m c) (lm) p (L+1+1) 6) PushM Fs undef (by kernel_rfl) (by kernel_rfl) (by kernel_rfl) (by kernel_rfl) (by kernel_rfl) H8 (n:=12) (by kernel_rfl) (show Below _ _ _ from Below.drewN (Below.refl _ _) 1) ?_ ?_
     ·refine OpsOk.cons ?_ (OpsOk.cons ?_ (OpsOk.cons ?_ (OpsOk.cons ?_ (OpsOk.cons ?_ (OpsOk.cons ?_ (OpsOk.cons ?_ (OpsOk.cons ?_ (OpsOk.cons ?_ (OpsOk.cons ?_ (OpsOk.cons ?_ (OpsOk.cons ?_ (OpsOk.nil))))))))))))
      ·
       refine OpOk.plain (by kernel_rfl) rfl ?_
       intro ρ uq Lq wq rq kq hs H3 H5 H1 H0 hL hC hN hF hU H2 hI K hK
       obtain rfl:kq=0:=by
        cases kq with
        | zero=>rfl
        | succ q=>
         have h:=(H2 9 0 rfl).2 (Nat.succ_pos q)
         exact absurd (hC 1 0 (by kernel_rfl) (hC 9 1 (by kernel_rfl) (h))) hN
       have H6:Below wr.heap.size wr wq:=hI
       have e3:ρ (.tmp 3)=.pointer (some ⟨L+1+1,0,none⟩):=H3 3 (by kernel_rfl)
       clear hs H3 H1 H0 hL hC hN hF hU H2
       obtain⟨y0,y1,y2,y3,y4,y5,y6⟩:=zbZ (H4.o.go H6).k2
       obtain⟨l1,l2,l3⟩:=(H4.o.go H6).lt
       go_simp
       exact hK.o _ _ rq PushM.refl hI (zuZ F0 rfl)
      ·
       refine OpOk.plain (by kernel_rfl) rfl ?_
       intro ρ uq Lq wq rq kq hs H3 H5 H1 H0 hL hC hN hF hU H2 hI K hK
       obtain rfl:kq=0:=by
        cases kq with
        | zero=>rfl
        | succ q=>
         have h:=(H2 9 0 rfl).2 (Nat.succ_pos q)
         exact absurd (hC 9 1 (by kernel_rfl) (h)) hN
       have H6:Below wr.heap.size wr wq:=hI
       have e49:ρ (.tmp 49)=.pointer (some ⟨L+1+1,6,none⟩):=(hs 49 0 (by kernel_rfl)).trans (zmZ F0 (hF 0 (hL 0 (by kernel_rfl))))
       clear hs H3 H1 H0 hL hC hN hF hU H2
       obtain⟨y0,y1,y2,y3,y4,y5,y6⟩:=zbZ (H4.o.go H6).k2
       obtain⟨l1,l2,l3⟩:=(H4.o.go H6).lt
       go_simp
       exact hK.o _ _ rq PushM.refl hI (zuZ F1 rfl)
      ·
       refine OpOk.plain (by kernel_rfl) rfl ?_
       intro ρ uq Lq wq rq kq hs H3 H5 H1 H0 hL hC hN hF hU H2 hI K hK
       obtain rfl:kq=0:=by
        cases kq with
        | zero=>rfl
        | succ q=>
         have h:=(H2 9 0 rfl).2 (Nat.succ_pos q)
         exact absurd (hC 3 2 (by kernel_rfl) (hC 5 3 (by kernel_rfl) (hC 6 5 (by kernel_rfl) (hC 7 6 (by kernel_rfl) (hC 8 7 (by kernel_rfl) (hC 9 8 (by kernel_rfl) (h))))))) hN
       have H6:Below wr.heap.size wr wq:=hI
       have e1:ρ (.tmp 1)=.pointer (some ⟨L,0,none⟩):=H3 1 (by kernel_rfl)
       clear hs H3 H1 H0 hL hC hN hF hU H2
       obtain⟨x0,x1,x2,x3,x4,x5,x6⟩:=zbZ (H4.o.go H6).k0
       obtain⟨l1,l2,l3⟩:=(H4.o.go H6).lt
       go_simp
       exact hK.o _ _ rq PushM.refl hI (zuZ F2 rfl)
      ·
       refine OpOk.plain (by kernel_rfl) rfl ?_
       intro ρ uq Lq wq rq kq hs H3 H5 H1 H0 hL hC hN hF hU H2 hI K hK
       obtain rfl:kq=0:=by
        cases kq with
        | zero=>rfl
        | succ q=>
         have h:=(H2 9 0 rfl).2 (Nat.succ_pos q)
         exact absurd (hC 5 3 (by kernel_rfl) (hC 6 5 (by kernel_rfl) (hC 7 6 (by kernel_rfl) (hC 8 7 (by kernel_rfl) (hC 9 8 (by kernel_rfl) (h)))))) hN
       have H6:Below wr.heap.size wr wq:=hI
       have e51:ρ (.tmp 51)=.pointer (some ⟨L,6,none⟩):=(hs 51 2 (by kernel_rfl)).trans (zmZ F2 (hF 2 (hL 2 (by kernel_rfl))))
       clear hs H3 H1 H0 hL hC hN hF hU H2
       obtain⟨x0,x1,x2,x3,x4,x5,x6⟩:=zbZ (H4.o.go H6).k0
       obtain⟨l1,l2,l3⟩:=(H4.o.go H6).lt
       go_simp
       exact hK.o _ _ rq PushM.refl hI (zuZ F3 rfl)
      ·
       refine OpOk.plain (by kernel_rfl) rfl ?_
       intro ρ uq Lq wq rq kq hs H3 H5 H1 H0 hL hC hN hF hU H2 hI K hK
       obtain rfl:kq=0:=by
        cases kq with
        | zero=>rfl
        | succ q=>
         have h:=(H2 9 0 rfl).2 (Nat.succ_pos q)
         exact absurd (hC 5 4 (by kernel_rfl) (hC 6 5 (by kernel_rfl) (hC 7 6 (by kernel_rfl) (hC 8 7 (by kernel_rfl) (hC 9 8 (by kernel_rfl) (h)))))) hN
       have H6:Below wr.heap.size wr wq:=hI
       have e5:ρ (.tmp 5)=.int .i64 (m:Int):=H3 5 (by kernel_rfl)
       exact znZ (.tmp 5) rfl e5 (hK.o _ _ rq PushM.refl hI (zuZ F4 rfl))
      ·
       refine OpOk.plain (by kernel_rfl) rfl ?_
       intro ρ uq Lq wq rq kq hs H3 H5 H1 H0 hL hC hN hF hU H2 hI K hK
       obtain rfl:kq=0:=by
        cases kq with
        | zero=>rfl
        | succ q=>
         have h:=(H2 9 0 rfl).2 (Nat.succ_pos q)
         exact absurd (hC 6 5 (by kernel_rfl) (hC 7 6 (by kernel_rfl) (hC 8 7 (by kernel_rfl) (hC 9 8 (by kernel_rfl) (h))))) hN
       have H6:Below wr.heap.size wr wq:=hI
       have e52:ρ (.tmp 52)=.slice (some ⟨g,off,none⟩) k cp:=(hs 52 3 (by kernel_rfl)).trans (zmZ F3 (hF 3 (hL 3 (by kernel_rfl))))
       have e53:ρ (.tmp 53)=.int .i64 (m:Int):=(hs 53 4 (by kernel_rfl)).trans (zmZ F4 (hF 4 (hL 4 (by kernel_rfl))))
       clear hs H3 H1 H0 hL hC hN hF hU H2
       obtain⟨hg,c0,c1,c2,c3,c4,c5,c6⟩:=Hh.o wq (H4.o.go H6).b
       go_simp
       exact hK.o _ _ rq PushM.refl hI (zuZ F5 rfl)
      ·
       refine OpOk.plain (by kernel_rfl) rfl ?_
       intro ρ uq Lq wq rq kq hs H3 H5 H1 H0 hL hC hN hF hU H2 hI K hK
       obtain rfl:kq=0:=by
        cases kq with
        | zero=>rfl
        | succ q=>
         have h:=(H2 9 0 rfl).2 (Nat.succ_pos q)
         exact absurd (hC 7 6 (by kernel_rfl) (hC 8 7 (by kernel_rfl) (hC 9 8 (by kernel_rfl) (h)))) hN
       have H6:Below wr.heap.size wr wq:=hI
       have e54:ρ (.tmp 54)=.pointer (some ⟨g,off+m * 7,none⟩):=(hs 54 5 (by kernel_rfl)).trans (zmZ F5 (hF 5 (hL 5 (by kernel_rfl))))
       clear hs H3 H1 H0 hL hC hN hF hU H2
       obtain⟨hg,c0,c1,c2,c3,c4,c5,c6⟩:=Hh.o wq (H4.o.go H6).b
       go_simp
       exact hK.o _ _ rq PushM.refl hI (zuZ F6 rfl)
      ·
       refine OpOk.plain (by kernel_rfl) rfl ?_
       intro ρ uq Lq wq rq kq hs H3 H5 H1 H0 hL hC hN hF hU H2 hI K hK
       obtain rfl:kq=0:=by
        cases kq with
        | zero=>rfl
        | succ q=>
         have h:=(H2 9 0 rfl).2 (Nat.succ_pos q)
         exact absurd (hC 8 7 (by kernel_rfl) (hC 9 8 (by kernel_rfl) (h))) hN
       have H6:Below wr.heap.size wr wq:=hI
       have e55:ρ (.tmp 55)=.agg #[.int .i64 p.pos,.int .i64 p.kind,.int .i64 p.n,.string ⟨p.s.toArray⟩,.slice Atp p.t.length ctp,.slice Anp p.names.length cnp,.slice App p.parts.length cpp]:=(hs 55 6 (by kernel_rfl)).trans (zmZ F6 (hF 6 (hL 6 (by kernel_rfl))))
       clear hs H3 H1 hL hC hN hF hU H2
       refine zcjZ (args:=#[.agg #[.int .i64 p.pos,.int .i64 p.kind,.int .i64 p.n,.string ⟨p.s.toArray⟩,.slice Atp p.t.length ctp,.slice Anp p.names.length cnp,.slice App p.parts.length cpp]]) rfl Tryz.func32 (by kernel_rfl) rfl (H0 _) (by simp only[List.map_toArray,List.map_cons,List.map_nil,H5,e55]) ?_
       clear H0 H5 e55
       refine(J0.o wq H6).mono ?_
       rintro e w5 ⟨v5,rfl,J1,Hc⟩
       exact⟨_,rfl,hK.o _ _ rq (PushM.below Hc) (PushI.early hI Hc) (zuZ F7 fun _=>(fun W W2 x hs h=>IsEx.sub hs _ _ h) _ _ _ (Sub.since_mono H6.size) J1)⟩
      ·
       refine OpOk.plain (by kernel_rfl) rfl ?_
       intro ρ uq Lq wq rq kq hs H3 H5 H1 H0 hL hC hN hF hU H2 hI K hK
       obtain rfl:kq=0:=by
        cases kq with
        | zero=>rfl
        | succ q=>
         have h:=(H2 9 0 rfl).2 (Nat.succ_pos q)
         exact absurd (hC 9 8 (by kernel_rfl) (h)) hN
       have H6:Below wr.heap.size wr wq:=hI
       have e56:ρ (.tmp 56)=uq 7:=hs 56 7 (by kernel_rfl)
       have p56:=zmZ F7 (hF 7 (hL 7 (by kernel_rfl))) rfl
       obtain⟨B1,d1,B2,d2,B3,d3,hve,-⟩:=IsEx.agg p56
       rw[hve]at e56 p56
       clear hs H3 H1 H0 hL hC hN hF hU H2
       go_simp
       exact hK.o _ _ rq (PushM.below ((Below.refl _ _).alloc (Nat.le_refl _) _)) (PushI.early hI ((Below.refl _ _).alloc (Nat.le_refl _) _)) (zuZ F8 fun _=>⟨_,_,_,rfl,heap_alloc_new wq _,rfl,by simp[Value.oneCell'],⟨_,_,_,_,_,_,_,rfl,IsEx.sub (Sub.since_below ((Below.refl _ _).alloc (Nat.le_refl _) _)) _ _ p56⟩⟩)
      ·
       refine OpOk.push REx.sub (.tmp 50) (.tmp 57) 37 rfl rfl F9 HO.o Tryz.underlying37 zwnZ rfl (by decide) HZ.o (fun b e=>nomatch e) (by have:=Hj.o;have:=Ja.o;omega) (by omega) ?_
       intro ρ uq Lq wq rq kq hs H3 hL hC hF hk
       exact⟨(hs 50 1 (by kernel_rfl)).trans (zmZ F1 (hF 1 (hL 1 (by kernel_rfl)))),_,hs 57 8 (by kernel_rfl),zmZ F8 (hF 8 (hL 8 (by kernel_rfl)))⟩
      ·
       refine OpOk.plain (by kernel_rfl) rfl ?_
       intro ρ uq Lq wq rq kq hs H3 H5 H1 H0 hL hC hN hF hU H2 hI K hK
       have Hb:kq<2:=by
        by_cases hk:1<kq
        ·have h:=(H2 11 1 rfl).2 hk
         exact absurd (hC 11 10 (by kernel_rfl) (h)) hN
        ·omega
       have e3:ρ (.tmp 3)=.pointer (some ⟨L+1+1,0,none⟩):=H3 3 (by kernel_rfl)
       clear hs H3 H1 H0 hL hC hN hF hU H2
       have Hv:=(PushI.block hI (g:=L+1+1) H4.o.lt.2.2 (fun e=>by have:=(Hf.o _ e).1;have:=Hs.o;omega) Hb).2
       have Jq:L+1+1<wq.heap.size:=Nat.lt_of_lt_of_le H4.o.lt.2.2 Hv
       go_simp
       exact hK.o _ _ rq PushM.refl hI (zuZ F10 rfl)
      ·
       refine OpOk.pushStore (by decide) rfl (by kernel_rfl) F9 F11 ?_
       intro ρ uq Lq wq rq hs H3 hL hF hu hI hr K hK
       obtain⟨Ar,cr,rfl⟩:=hr
       have e59:ρ (.tmp 59)=.pointer (some ⟨L+1+1,6,none⟩):=(hs 59 10 (by kernel_rfl)).trans (zmZ F10 (hF 10 (hL 10 (by kernel_rfl))))
       have e58:ρ (.tmp 58)=_:=(hs 58 9 (by kernel_rfl)).trans hu
       clear hs H3 hL hF hu
       have Hb:wq.heap[L+1+1]? =wr.heap[L+1+1]? :=(PushI.block hI (g:=L+1+1) H4.o.lt.2.2 (fun e=>by have:=(Hf.o _ e).1;have:=Hs.o;omega) (by decide)).1
       obtain⟨y0,y1,y2,y3,y4,y5,y6⟩:=zbZ (Hb.trans H4.o.k2)
       obtain⟨f0,f1,f2,f3,f4,f5,f6⟩:=zcmZ (Hb.trans H4.o.k2)
       have Jh:=zaZ (Hb.trans H4.o.k2)
       go_simp
       exact hK.o _
     ·intro uq wq rq hI hF
      obtain⟨A9,c9,W9,w9,rfl,hb9,hown9,hgr9,rfl⟩:=hI
      simp only[List.toList_toArray,fillAct,Act.put,List.setIfInBounds_toArray,List.set_cons_zero,List.set_cons_succ]
      clear hF F0 F1 F2 F3 F4 F5 F6 F7 F8 F9 F10 F11 H8
      have H7:=OwnEx.push REx.sub H4.o Hi.o (fun b e=>Hf.o b e) Hs.o HZ.o hb9 hown9 hgr9 (j:=6)
      rw[Hj.o]at H7 ⊢
      obtain⟨W10,hW10⟩:=zE (w9.setCell ⟨L+1+1,6,none⟩ (.slice A9 (m+1) c9))
      rw[hW10]at H7 ⊢
      rw[←Hg.o]at H7
      have Hw:=zh (show(OwnEx L W #[.int .i64 ps,.int .i64 kd,.int .i64 nn,.string ⟨nm.toArray⟩,.slice At tl ct,.slice An nl cn,.slice (some ⟨g,off,none⟩) k cp] #[.int .i64 0,.int .i64 0,.int .i64 0,.string ⟨#[]⟩,.slice none 0 0,.slice none 0 0,.slice none 0 0] #[.int .i64 ps,.int .i64 kd,.int .i64 nn,.string ⟨nm.toArray⟩,.slice AT tl cT,.slice AN nl cN,.slice A9 (m+1) c9] W10)∧_ from H7)
      clear hW10 H7 hown9 hgr9 hb9
      go_wp2_with fail
      go_roundg (k-(m+1))
      case measure=>have:=HI.o;omega
      case rel=>exact⟨m+1,A9,c9,rfl,by simp,hlt,Hw.o⟩
    ·have Hy:¬(m:Int)<(k:Int):=by omega
     have Hp:=List.take_of_length_le (show x.parts.length≤m by have:=HK.o;omega)
     have H9:=HO.o
     rw[Hp]at H9
     obtain⟨z0,z1,z2,z3,z4,z5,z6⟩:=zbZ H4.o.k1
     obtain⟨f0,f1,f2,f3,f4,f5,f6⟩:=zcmZ H4.o.k1
     have Hz:=zh H9.exs_since
     clear Hp H9
     go_wp2_with fail
     obtain⟨wz,hwz⟩:=zE ((((((((wr.setCell ⟨L+1,0,none⟩ (.int .i64 ps)).setCell ⟨L+1,1,none⟩ (.int .i64 kd)).setCell ⟨L+1,2,none⟩ (.int .i64 nn)).setCell ⟨L+1,3,none⟩ (.string ⟨nm.toArray⟩)).setCell ⟨L+1,4,none⟩ (.slice AT tl cT)).setCell ⟨L+1,5,none⟩ (.slice AN nl cN)).setCell ⟨L+1,6,none⟩ (.slice A m c)))
     rw[hwz]
     have J7:=(heap_setCell_same _ _ 6 _ _ (.slice A m c) (heap_setCell_same _ _ 5 _ _ (.slice AN nl cN) (heap_setCell_same _ _ 4 _ _ (.slice AT tl cT) (heap_setCell_same _ _ 3 _ _ (.string ⟨nm.toArray⟩) (heap_setCell_same _ _ 2 _ _ (.int .i64 nn) (heap_setCell_same _ _ 1 _ _ (.int .i64 kd) (heap_setCell_same _ _ 0 _ _ (.int .i64 ps) H4.o.k1)))))))
     have Jg:Below L W wz:=by
      rw[←hwz]
      exact(((((((H4.o.b.setCell (by simp) _).setCell (by simp) _).setCell (by simp) _).setCell (by simp) _).setCell (by simp) _).setCell (by simp) _).setCell (by simp) _)
     have He:∀gg,gg≠L+1→wz.heap[gg]? =wr.heap[gg]? :=fun gg h=>by
      rw[←hwz]
      exact(Below.heap_setCell _ _ _ _ h).trans ((Below.heap_setCell _ _ _ _ h).trans ((Below.heap_setCell _ _ _ _ h).trans ((Below.heap_setCell _ _ _ _ h).trans ((Below.heap_setCell _ _ _ _ h).trans ((Below.heap_setCell _ _ _ _ h).trans (Below.heap_setCell _ _ _ _ h))))))
     rw[hwz]at J7
     obtain⟨q0,q1,q2,q3,q4,q5,q6⟩:=zbZ (show wz.heap[L+1]? =some (.cells #[.int .i64 ps,.int .i64 kd,.int .i64 nn,.string ⟨nm.toArray⟩,.slice AT tl cT,.slice AN nl cN,.slice A m c] 39 (0,0))from J7)
     have Hl:Sub (only w7 (since (L+1+1+1))) (only wz (since L)):=zxZ fun gg hg hs=>by
      have h1:=zvZ.1 hs
      refine⟨zvZ.2 (by omega),?_⟩
      rw[He gg (by omega),Hi.o gg h1 (by have:=HM.o;have:=Jp.o;omega)]
      exact Ji.o gg h1 (by have:=HM.o;omega)
     have Js:Sub (only w8 (since M)) (only wz (since L)):=zxZ fun gg hg hs=>by
      have h1:=zvZ.1 hs
      have:=Hr.o
      refine⟨zvZ.2 (by omega),?_⟩
      rw[He gg (by omega)]
      exact Hi.o gg (by omega) (by have:=J6.o;omega)
     have Jd:Sub (only wr (since M2)) (only wz (since L)):=zxZ fun gg hg hs=>by
      have h1:=zvZ.1 hs
      have:=Hs.o
      refine⟨zvZ.2 (by omega),?_⟩
      rw[He gg (by omega)]
     refine bodyPost_ret (v:=.agg #[.int .i64 ps,.int .i64 kd,.int .i64 nn,.string ⟨nm.toArray⟩,.slice AT tl cT,.slice AN nl cN,.slice A m c]) (by simp[results, Tryz.results32,go_sem,q0,q1,q2,q3,q4,q5,q6]) rfl ⟨_,rfl,?_,Jg⟩
     rw[Jn.o]
     exact IsEx.made2 (Jt.o.sub Js) (Jm.o.sub Hl) (Hz.o.sub Jd) Hn.o.1 Hn.o.2
theorem zleZ:∀(n:Nat) (x:Sx.Ex),Sx.sizeX x≤n→n≤1000000→OwnXOk x
 | 0,x,h,_=>by have:=Sx.sizeX_pos x;omega
 | n+1,x,h,h1=>zqgZ x (by omega) fun p hp=>zleZ n p (by
   have:=Sx.sizeX_mem hp
   have:=Sx.sizeX_parts x
   omega) (by omega)
end Go.Proofs.YtdncljdfmdgdaaaGreatDoor
