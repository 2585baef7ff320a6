/-
  The walk of coilkeep.SizeType.
-/
import Derived.Test.YtdncljdfmdgdaaaGreatDoorM10
set_option linter.unusedSimpArgs false
set_option linter.unusedVariables false
set_option maxRecDepth 100000
set_option maxHeartbeats 8000000
namespace Go.Proofs.YtdncljdfmdgdaaaGreatDoor
open Go.RowKit Go.Shelf
mutual
def Sx.fits:Sx.Ty->Prop
 | .mk _ n ns es ps=>n.length<=140737488351232/\ns.length<=140737488351232/\es.length<=140737488351232/\ps.length<=140737488351232/\(∀s∈ns,s.length<=140737488351232)/\Sx.fitsL ps
def Sx.fitsL:List Sx.Ty->Prop
 | []=>True
 | t::l=>Sx.fits t/\Sx.fitsL l
end
theorem Sx.fitsL_mem:∀ {l:List Sx.Ty} {t:Sx.Ty},Sx.fitsL l->t∈l->Sx.fits t
 | u::l,t,h,hm=>by
  rw[Sx.fitsL]at h;rcases yTZ.1 hm with rfl | hm
  ·exact h.1
  ·exact Sx.fitsL_mem h.2 hm
theorem Sx.fits_parts {t:Sx.Ty} (h:Sx.fits t):t.name.length<=140737488351232/\t.names.length<=140737488351232/\t.embeds.length<=140737488351232/\t.parts.length<=140737488351232/\(∀s∈t.names,s.length<=140737488351232)/\∀p∈t.parts,Sx.fits p:=by
 cases t;rw[Sx.fits]at h;obtain⟨a,b,c,d,e,f⟩:=h;exact⟨a,b,c,d,e,fun p hp=>Sx.fitsL_mem f hp⟩
theorem Sx.sum_take {ns:List Lx.Bytes} {m:Nat} (h:m<ns.length):((ns.take (m+1)).map List.length).sum=((ns.take m).map List.length).sum+(ns[m]).length:=by
 rw[ykZ h,List.map_append,List.sum_append];simp
def SizeIs (most sz:Nat) (W:World) (e:Ending) (W':World):Prop:=∃r:Nat,e=.returned (.int .i64 (r:Nat))/\r<=most+500000000000000/\(r<most->r=sz)/\Below W.heap.size W W'
theorem zljZ:∀(n:Nat) (t:Sx.Ty),Sx.size t<=n->Sx.fits t->∀(most:Nat) (v:Value) (W:World),1<=most->most<=1000000->IsTy W v t->
  Calls Tryz.prog 25 #[v,.int .i64 (most:Nat)] W (SizeIs most (Sx.size t) W):=by
 intro n
 induction n with
 | zero=>intro t h;have:=Sx.size_pos t;omega
 | succ n ih=>
  intro t hn hf most v W J4 J3 ht;obtain⟨f1,f2,f3,f4,f5,f6⟩:=Sx.fits_parts hf;obtain⟨An,cn,Ae,ce,Ap,cp,rfl,hnm,hem,hp⟩:=ht.agg;have Hd:=Sx.size_parts t;obtain⟨nl,hnl⟩:=zE (t.names.length);obtain⟨el,hel⟩:=zE (t.embeds.length);obtain⟨k,hk⟩:=zE (t.parts.length);obtain⟨ll,hll⟩:=zE (t.name.length);rw[hnl,hel,hll]at Hd;rw[hnl]at f2 hnm;rw[hel]at f3;rw[hk]at f4 hp;rw[hll]at f1;rw[hnl,hel,hk];have i1:(0:Int)<=(ll:Int)/\(ll:Int)<=140737488351232:=(by omega);have i2:(0:Int)<=(nl:Int)/\(nl:Int)<=140737488351232:=(by omega);have i3:(0:Int)<=(el:Int)/\(el:Int)<=140737488351232:=(by omega);have i4:(0:Int)<=(k:Int)/\(k:Int)<=140737488351232:=(by omega);have i5:(1:Int)<=(most:Int)/\(most:Int)<=1000000:=(by omega);obtain⟨i1a,i1b⟩:=i1;obtain⟨i2a,i2b⟩:=i2;obtain⟨i3a,i3b⟩:=i3;obtain⟨i4a,i4b⟩:=i4;obtain⟨i5a,i5b⟩:=i5;have Ht:(⟨t.name.toArray⟩:ByteArray).size=ll:=(by simp[ByteArray.size,hll]);have Hv:=zh ih;have Hi:=zh Hd;have HN:=zh hn;have Hw:=zh hnm;have HP:=zh hp;have J1:=zh f5;have Hq:=zh f6;have Hk:=zh hnl;have HK:=zh hk;obtain⟨L,hL⟩:=zE (W.heap.size);obtain⟨w2,hw2⟩:=zE (W.alloc (.cells #[.int .i64 t.kind,.string ⟨t.name.toArray⟩,.slice An nl cn,.slice Ae el ce,.slice Ap k cp] 26));have H1:w2.heap[L]? =some (.cells #[.int .i64 t.kind,.string ⟨t.name.toArray⟩,.slice An nl cn,.slice Ae el ce,.slice Ap k cp] 26 (0,0)):=(by rw[<-hw2,<-hL];exact ydZ W _);have Hn:Below L W w2:=(by rw[<-hw2,<-hL];exact zeZ (yeZ W _ none));obtain⟨x0,x1,x2,x3,x4⟩:=zcZ H1;have J6:=zaZ H1;have Hp:=zh H1;have Ho:=zh Hn;have HL:=zh hL;clear ih Hd hn hnm hem hp f5 f6 hnl hel hk hll ht hf H1 Hn;go_enter Tryz.func25, Tryz.ntmps25
  go_upto_block 0 with(fail)
  obtain⟨bs,hbs⟩:∃b:Int,1+(ll:Int)+(nl:Int)+(el:Int)=b:=⟨_,rfl⟩;have J0:=zh hbs;rw[hbs];clear hbs
  go_cut [5] (fun v wx=>wx=w2/\∃r:Nat,v=.int .i64 (r:Nat)/\r<=most+500000000000000/\(r<most->r=1+ll+nl+el+(t.names.map List.length).sum))
  case first=>
   go_wp2_with fail
   go_loopg [5,6] nl (fun i v u wr=>∃(m r:Nat),i=nl-m/\v=.int .i64 (r:Nat)/\u=.int .i64 (m:Nat)/\m<=nl/\r<=most+500000000000000/\(r<most->r=1+ll+nl+el+((t.names.take m).map List.length).sum)/\wr=w2)
   case atStart=>exact⟨0,1+ll+nl+el,rfl,by have:=J0.o;congr 1;omega,rfl,yxZ _,by omega,by simp,rfl⟩
   case round=>
    obtain⟨m,r,hi,rfl,rfl,hm,hr1,hr2,rfl⟩:=hrel;have HI:=zh hi;have H6:=zh hr2;have m0:(0:Int)<=(m:Int):=(by omega);have r0:(0:Int)<=(r:Int):=(by omega);have r1:(r:Int)<=500000001000000:=(by omega);clear hi hr2;by_cases hlt:m<nl
    ·have Ha:(m:Int)<(nl:Int):=(by omega);by_cases hrm:r<most
     ·have Hb:(r:Int)<(most:Int):=(by omega);have H5:m<t.names.length:=(by have:=Hk.o;omega);obtain⟨g1,off1,rfl,hsp1⟩:=Hw.o.spot m H5;obtain⟨hg1,q1⟩:=hsp1 wr (by rw[HL.o];exact Ho.o);have H2:=Sx.sum_take H5;have Hl:=J1.o _ (yfZ H5);obtain⟨s,hse⟩:=zE (t.names[m]'H5);rw[hse]at q1 H2 Hl;obtain⟨sl,hsl⟩:=zE (s.length);have J5:(⟨s.toArray⟩:ByteArray).size=sl:=(by simp[ByteArray.size,hsl]);rw[hsl]at H2 Hl;have s0:(0:Int)<=(sl:Int):=(by omega);have s1:(sl:Int)<=140737488351232:=(by omega);have H9:=zh H2;have Hy:=zh (H6.o hrm);clear H2 hse hsl hsp1;go_wp2_with fail;go_roundg (nl-(m+1))
      case measure=>have:=HI.o;omega
      case rel=>exact⟨m+1,r+sl,rfl,by simp,by simp,hlt,by omega,fun _=>by rw[H9.o,Hy.o];omega,rfl⟩
     ·have Hb:decide ((r:Int)<(most:Int))=false:=(by rw[yvZ];omega);have He:¬(r:Int)<(most:Int):=(by omega);go_wp2_with fail
      go_meet
      exact⟨rfl,r,rfl,hr1,fun h=>absurd h hrm⟩
    ·have Ha:decide ((m:Int)<(nl:Int))=false:=(by rw[yvZ];omega);have Hf:¬(m:Int)<(nl:Int):=(by omega);have H0:=yjZ (show t.names.length<=m by have:=Hk.o;omega);have Hc:=zh H0;clear H0;go_wp2_with fail
     go_meet
     exact⟨rfl,r,rfl,hr1,fun h=>by rw[H6.o h,Hc.o]⟩
  case rest=>
   obtain⟨rfl,r,rfl,hr1,hr2⟩:=hcut;have H6:=zh hr2;have r0:(0:Int)<=(r:Int):=(by omega);have r1:(r:Int)<=500000001000000:=(by omega);clear hr2;go_wp2_with fail;clear x0 x1 x2 x3 x4;go_loopg [5,7] k (fun i v u wr=>∃(m r:Nat),i=k-m/\v=.int .i64 (r:Nat)/\u=.int .i64 (m:Nat)/\m<=k/\r<=most+500000000000000/\(r<most->r=1+ll+nl+el+(t.names.map List.length).sum+Sx.sizeL (t.parts.take m))/\Below L W wr/\wr.heap[L]? =wc.heap[L]?)
   case atStart=>exact⟨0,r,rfl,rfl,rfl,yxZ _,hr1,by have:=H6.o;simpa[Sx.sizeL]using this,Ho.o,rfl⟩
   case round=>
    obtain⟨m,q,hi,rfl,rfl,hm,hq1,hq2,hwr,hbr⟩:=hrel;rw[Hp.o]at hbr;obtain⟨x0,x1,x2,x3,x4⟩:=zcZ hbr;have Hz:=zaZ hbr;have hLs:L<=wr.heap.size:=(by omega);have HI:=zh hi;have Hh:=zh hq2;have H3:=zh hwr;have Hr:=zh hbr;have m0:(0:Int)<=(m:Int):=(by omega);have q0:(0:Int)<=(q:Int):=(by omega);have q1:(q:Int)<=500000001000000:=(by omega);clear hi hq2 hwr hbr;by_cases hlt:m<k
    ·have Ha:(m:Int)<(k:Int):=(by omega);by_cases hrm:q<most
     ·have Hb:(q:Int)<(most:Int):=(by omega);have H4:m<t.parts.length:=(by have:=HK.o;omega);obtain⟨g,off,An1,cn1,Ae1,ce1,Aq,cq,rfl,hty,hc5⟩:=HP.o.spot m H4;rw[HL.o]at hc5;obtain⟨hg,c0,c1,c2,c3,c4⟩:=hc5 wr H3.o;have H2:=Sx.size_take H4;have H8:=Hq.o _ (yfZ H4);have Hg:=Sx.size_mem (yfZ H4);obtain⟨p,hpe⟩:=zE (t.parts[m]'H4);rw[hpe]at c0 c1 c2 c3 c4 hty H2 H8 Hg;obtain⟨d,hd⟩:∃d:Int,(most:Int)-(q:Int)=d:=⟨_,rfl⟩;have d0:1<=d:=(by omega);have d1:d<=1000000:=(by omega);have H7:=Hv.o p (by have:=HN.o;have:=Hi.o;omega) H8 (most-q) _ wr (by omega) (by omega) (IsTy.below (by rw[HL.o];exact H3.o) _ _ hty);rw[show((most-q:Nat):Int)=d by omega]at H7;have Hx:=zh H7;have H9:=zh H2;have Hu:=zh (Hh.o hrm);clear H7 H2 H8 Hg hpe hty hc5;go_wp2_with fail;refine Hx.o.mono ?_;rintro e w5 ⟨z,rfl,J7,Hm,Hj⟩;have z0:(0:Int)<=(z:Int):=(by omega);have J2:z+q<=most+500000000000000:=(by omega);have z1:(z:Int)<=500000001000000:=(by omega);have z2:(q:Int)+(z:Int)<=500000001000000:=(by omega);have Hs:=zh Hm;clear Hm;go_wp2_with fail;go_roundg (k-(m+1))
      case measure=>have:=HI.o;omega
      case rel=>
       refine⟨m+1,q+z,rfl,by simp,by simp,hlt,by omega,fun hlz=>?_,H3.o.trans (Hj.mono hLs),?_⟩
       ·rw[H9.o,Hs.o (by omega),Hu.o];omega
       ·rw[Hp.o,Hj.block L Hz,Hr.o]
     ·have Hb:decide ((q:Int)<(most:Int))=false:=(by rw[yvZ];omega);have He:¬(q:Int)<(most:Int):=(by omega);go_wp2_with fail;go_ret;exact⟨q,rfl,hq1,fun h=>absurd h hrm,by rw[HL.o];exact H3.o⟩
    ·have Ha:decide ((m:Int)<(k:Int))=false:=(by rw[yvZ];omega);have Hf:¬(m:Int)<(k:Int):=(by omega);have H0:=yjZ (show t.parts.length<=m by have:=HK.o;omega);have Hc:=zh H0;clear H0;go_wp2_with fail;go_ret;refine⟨q,rfl,hq1,fun h=>?_,by rw[HL.o];exact H3.o⟩;have:=Hh.o h;rw[Hc.o]at this;rw[this,Hi.o]
end Go.Proofs.YtdncljdfmdgdaaaGreatDoor
namespace Go.Proofs.YtdncljdfmdgdaaaGreatDoor
open Go.ChangeShapes Go.WideShapes Go.ChangeAt Go.RowKit
def Fit {H:Type} (P:Program) (t:TypeId) (d:DataW H):Prop:=∀n∈d.weights P t,n<=reachBytes
theorem Fit.each {H:Type} {P:Program} : ∀ {ts:List TypeId} {ds:List (DataW H)} {i:Nat} {t:TypeId} {d:DataW H},(∀n∈DataW.weightsEach P ts ds,n<=reachBytes)->ts[i]? =some t->ds[i]? =some d->Fit P t d
 | [],ds,i,t,d,h,h1,h2=>by simp at h1
 | t::ts,[],i,u,d,h,h1,h2=>by simp at h2
 | t::ts,d::ds,0,u,e,h,h1,h2=>by simp at h1 h2;subst h1 h2;rw[DataW.weightsEach]at h;exact fun n hn=>h n (List.mem_append_left _ hn)
 | t::ts,d::ds,i+1,u,e,h,h1,h2=>by rw[DataW.weightsEach]at h;exact Fit.each (fun n hn=>h n (List.mem_append_right _ hn)) (by simpa using h1) (by simpa using h2)
theorem Fit.all {H:Type} {P:Program} {t:TypeId} : ∀ {ds:List (DataW H)} {i:Nat} {d:DataW H},(∀n∈DataW.weightsAll P t ds,n<=reachBytes)->ds[i]? =some d->Fit P t d
 | [],i,d,h,h2=>by simp at h2
 | d::ds,0,e,h,h2=>by simp at h2;subst h2;rw[DataW.weightsAll]at h;exact fun n hn=>h n (List.mem_append_left _ hn)
 | d::ds,i+1,e,h,h2=>by rw[DataW.weightsAll]at h;exact Fit.all (fun n hn=>h n (List.mem_append_right _ hn)) (by simpa using h2)
section
variable {H:Type} {enc:TypeId×Value->H} {P:Program} {W:World} {sp:Nat->Bool} {held:Bool}
theorem ztZ {t ty:TypeId} {off:Nat} (i:Nat) {fuel:Nat} {cs:List Value} {x:DataW H×List MemPlace} (hu:P.underlying t=some (.struct (P.fieldsOf t))) (hi:(P.fieldsOf t)[i]?.map (fun f=>(f.type,f.offset))=some (ty,off))
  (h:DataW.trod enc P W 0 sp held fuel t cs=some x) (hf:Fit P t x.1) :
  ∃n y,n<fuel/\DataW.trod enc P W 0 sp held n ty ((cs.drop off).take (P.cellsOf ty))=some y/\Fit P ty y.1:=by
 obtain⟨xs,n,rfl,rfl,hl,hlen,hfs⟩:=DataW.trod_struct hu h;obtain⟨f,hfi,he⟩:=yibZ.1 hi;injection he with e1 e2;have h1:=hfs i f hfi;rw[e1,e2]at h1;have H0:i<xs.length:=by rw[hlen];exact(Array.getElem?_eq_some_iff.1 hfi).1
 rw[List.getElem?_eq_getElem H0]at h1;refine⟨n,_,Nat.lt_succ_self n,h1,?_⟩;unfold Fit at hf;simp only[DataW.weights,hu]at hf;exact Fit.each (i:=i) hf (by rw[List.getElem?_map,Array.getElem?_toList,hfi,<-e1];rfl) (by rw[List.getElem?_map,List.getElem?_eq_getElem H0];rfl)
theorem zeiZ {t:TypeId} {fuel:Nat} {cs:List Value} {x:DataW H×List MemPlace} (hu:P.underlying t=some (.struct (P.fieldsOf t))) (h:DataW.trod enc P W 0 sp held fuel t cs=some x):cs.length=P.cellsOf t:=by
 obtain⟨xs,n,rfl,rfl,hl,hlen,hfs⟩:=DataW.trod_struct hu h;exact hl
theorem zjrZ {a:Addr} {n:Nat} {cs:List Value} (h:W.cells? 0 a n=some cs):cs.length=n/\∀j,j<n->W.cell? (a.add j)=cs[j]? :=by
 unfold World.cells? at h;rw[if_pos (yxZ _)]at h;refine⟨by simpa using mapM_some_length h,fun j hj=>mapM_some_get h j j (by simp[hj])⟩
theorem zdwZ {t e:TypeId} {c fuel:Nat} {v:Value} {x:DataW H×List MemPlace} (hu:P.underlying t=some (.slice e)) (hc:P.cellsOf e=c) (hc1:0<c) (hb:1<=P.bytesOf e)
  (h:DataW.trod enc P W 0 sp held fuel t [v]=some x) (hf:Fit P t x.1) :
  ∃a len cap,v=.slice a len cap/\len<=cap/\len<=reachBytes/\∀i,i<len->∃g off cs n y,a=some ⟨g,off,none⟩/\n<fuel/\cs.length=c/\(∀j,j<c->W.cell? ⟨g,off+i * c+j,none⟩=cs[j]?)/\
   DataW.trod enc P W 0 sp held n e cs=some y/\Fit P e y.1:=by
 rcases DataW.trod_slice hu h with⟨hcs,_⟩ | ⟨a,len',cap',elems,rest,n,rfl,hcs,rfl,_,hlc,hcm,hlen,hel,_⟩
 ·injection hcs with hcs _;exact⟨none,0,0,hcs,ybZ _,yxZ _,fun i hi=>by omega⟩
 ·injection hcs with hcs _;subst hcs;unfold Fit at hf;simp only[DataW.weights,hu]at hf;refine⟨some a,len',cap',rfl,hlc,?_,fun i hi=>?_⟩
  ·have:=hf _ (ysZ);simp only[List.length_map]at this;have h2:=Nat.le_mul_of_pos_right (elems.length+rest.length) hb;omega
  ·have he:=hel i hi;rw[List.getElem?_eq_getElem (by omega)]at he;obtain⟨cs,hcc,ht⟩:=Option.bind_eq_some_iff.1 he;rw[hc]at hcc;obtain⟨hl,hg⟩:=zjrZ hcc;have H1:=hel 0 (by omega);rw[List.getElem?_eq_getElem (show 0<elems.length by omega)]at H1;obtain⟨cs0,hcc0,-⟩:=Option.bind_eq_some_iff.1 H1;rw[hc]at hcc0;obtain⟨hl0,hg0⟩:=zjrZ hcc0;obtain⟨b,off,spot⟩:=a;have h0:=hg0 0 hc1;rw[List.getElem?_eq_getElem (show 0<cs0.length by omega)]at h0;have H0:spot=none:=(by simpa[Addr.add]using World.cell?_spot h0);subst H0;refine⟨b,off,cs,n,_,rfl,Nat.lt_succ_self n,hl,fun j hj=>?_,ht,?_⟩
   ·have:=hg j hj;rw[zclZ,zclZ]at this;exact this
   ·exact Fit.all (i:=i) (fun m hm=>hf m (ywZ _ (List.mem_append_left _ hm))) (by rw[List.getElem?_map,List.getElem?_eq_getElem (by omega)];rfl)
theorem zfaZ {t:TypeId} {fuel:Nat} {v:Value} {x:DataW H×List MemPlace} (hu:P.underlying t=some .string) (h:DataW.trod enc P W 0 sp held fuel t [v]=some x) (hf:Fit P t x.1) :
  ∃s:Lx.Bytes,v=.string ⟨s.toArray⟩/\s.length<=reachBytes:=by
 obtain⟨s,e,hx,_⟩:=DataW.trod_string hu h;subst hx;injection e with e;refine⟨s.data.toList,by rw[zcoZ];exact e,?_⟩;have:=hf s.data.toList.length (by simp[DataW.weights]);exact this
end
theorem zpnZ {l:List Value} (h:l.length=5):∃a b c d e,l=[a,b,c,d,e]:=by
 match l,h with
 | [a,b,c,d,e],_=>exact⟨a,b,c,d,e,rfl⟩
theorem zlkZ {l:List Value} (h:l.length=1):∃a,l=[a]:=by
 match l,h with
 | [a],_=>exact⟨a,rfl⟩
theorem uTy : Tryz.prog.underlying 26 =some (.struct (Tryz.prog.fieldsOf 26)):=by kernel_rfl
theorem cTy : Tryz.prog.cellsOf 26 =5:=by kernel_rfl
theorem bTy:1<= Tryz.prog.bytesOf 26 :=yBZ (by kernel_rfl)
theorem bStr:1<= Tryz.prog.bytesOf 9 :=yBZ (by kernel_rfl)
theorem bBool:1<= Tryz.prog.bytesOf 4 :=yBZ (by kernel_rfl)
theorem cBool : Tryz.prog.cellsOf 4 =1:=by kernel_rfl
theorem cSls : Tryz.prog.cellsOf 22 =1:=by kernel_rfl
theorem cSlb : Tryz.prog.cellsOf 23 =1:=by kernel_rfl
theorem cSlt : Tryz.prog.cellsOf 24 =1:=by kernel_rfl
theorem uSls : Tryz.prog.underlying 22 =some (.slice 9):=by kernel_rfl
theorem uSlb : Tryz.prog.underlying 23 =some (.slice 4):=by kernel_rfl
theorem uSlt : Tryz.prog.underlying 24 =some (.slice 26):=by kernel_rfl
theorem uBool : Tryz.prog.underlying 4 =some .bool:=by kernel_rfl
theorem fTy0:(Tryz.prog.fieldsOf 26)[0]?.map (fun f=>(f.type,f.offset))=some (3,0):=by kernel_rfl
theorem fTy1:(Tryz.prog.fieldsOf 26)[1]?.map (fun f=>(f.type,f.offset))=some (9,1):=by kernel_rfl
theorem fTy2:(Tryz.prog.fieldsOf 26)[2]?.map (fun f=>(f.type,f.offset))=some (22,2):=by kernel_rfl
theorem fTy3:(Tryz.prog.fieldsOf 26)[3]?.map (fun f=>(f.type,f.offset))=some (23,3):=by kernel_rfl
theorem fTy4:(Tryz.prog.fieldsOf 26)[4]?.map (fun f=>(f.type,f.offset))=some (24,4):=by kernel_rfl
section
variable {H:Type} {enc:TypeId×Value->H} {W:World} {sp:Nat->Bool} {held:Bool}
theorem zgcZ {fuel:Nat} {v:Value} {x:DataW H×List MemPlace} (h:DataW.trod enc Tryz.prog W 0 sp held fuel 22 [v]=some x) (hf:Fit Tryz.prog 22 x.1) :
  ∃ns,StrRow W v ns/\ns.length<=reachBytes/\∀s∈ns,s.length<=reachBytes:=by
 obtain⟨a,len,cap,rfl,hlc,hlr,hi⟩:=zdwZ uSls cS Nat.one_pos bStr h hf;have H0:∀i,i<len->∃s:Lx.Bytes,(∃g off,a=some ⟨g,off,none⟩/\W.cell? ⟨g,off+i,none⟩=some (.string ⟨s.toArray⟩))/\s.length<=reachBytes:=by intro i H1;obtain⟨g,off,cs,n,y,rfl,_,hl,hc,ht,hfy⟩:=hi i H1;obtain⟨u,rfl⟩:=zlkZ hl;obtain⟨s,rfl,hs⟩:=zfaZ Tryz.underlying9 ht hfy;exact⟨s,⟨g,off,rfl,by simpa using hc 0 Nat.one_pos⟩,hs⟩
 obtain⟨ns,hl,hp⟩:=zbxZ len H0;refine⟨ns,⟨a,cap,by rw[hl],fun i h=>(hp i h).1⟩,by omega,fun s hs=>?_⟩;obtain⟨i,hi,rfl⟩:=List.getElem_of_mem hs;exact(hp i hi).2
theorem zkhZ {fuel:Nat} {v:Value} {x:DataW H×List MemPlace} (h:DataW.trod enc Tryz.prog W 0 sp held fuel 23 [v]=some x) (hf:Fit Tryz.prog 23 x.1) :
  ∃es,BoolRow W v es/\es.length<=reachBytes:=by
 obtain⟨a,len,cap,rfl,hlc,hlr,hi⟩:=zdwZ uSlb cBool Nat.one_pos bBool h hf;have H0:∀i,i<len->∃s:Bool,(∃g off,a=some ⟨g,off,none⟩/\W.cell? ⟨g,off+i,none⟩=some (.bool s)):=by intro i H1;obtain⟨g,off,cs,n,y,rfl,_,hl,hc,ht,hfy⟩:=hi i H1;obtain⟨u,rfl⟩:=zlkZ hl;obtain⟨s,e,_⟩:=DataW.trod_bool uBool ht;injection e with e;subst e;exact⟨s,g,off,rfl,by simpa using hc 0 Nat.one_pos⟩
 obtain⟨ns,hl,hp⟩:=zbxZ len H0;exact⟨ns,⟨a,cap,by rw[hl],fun i h=>hp i h⟩,by omega⟩
def TyRead (W:World) (cs:List Value):Prop:=∃v0 v1 v2 v3 v4 t,cs=[v0,v1,v2,v3,v4]/\IsTy W (.agg #[v0,v1,v2,v3,v4]) t/\Sx.fits t
theorem zllZ:∀ {l:List Sx.Ty},(∀t∈l,Sx.fits t)->Sx.fitsL l
 | [],h=>by rw[Sx.fitsL];trivial
 | t::l,h=>by rw[Sx.fitsL];exact⟨h t ysZ,zllZ fun u hu=>h u (ywZ _ hu)⟩
theorem zhbZ {fuel:Nat} (ih:∀n,n<fuel->∀cs x,DataW.trod enc Tryz.prog W 0 sp held n 26 cs=some x->Fit Tryz.prog 26 x.1->TyRead W cs)
  {v:Value} {x:DataW H×List MemPlace} (h:DataW.trod enc Tryz.prog W 0 sp held fuel 24 [v]=some x) (hf:Fit Tryz.prog 24 x.1) :
  ∃l,TyRow W v l/\l.length<=reachBytes/\Sx.fitsL l:=by
 obtain⟨a,len,cap,rfl,hlc,hlr,hi⟩:=zdwZ uSlt cTy (by decide) bTy h hf
 have H0:∀i,i<len->∃t:Sx.Ty,(∃g off v0 v1 v2 v3 v4,a=some ⟨g,off,none⟩/\W.cell? ⟨g,off+(0+i) * 5,none⟩=some v0/\W.cell? ⟨g,off+(0+i) * 5+1,none⟩=some v1/\
   W.cell? ⟨g,off+(0+i) * 5+2,none⟩=some v2/\W.cell? ⟨g,off+(0+i) * 5+3,none⟩=some v3/\W.cell? ⟨g,off+(0+i) * 5+4,none⟩=some v4/\IsTy W (.agg #[v0,v1,v2,v3,v4]) t)/\Sx.fits t:=by
  intro i H1;obtain⟨g,off,cs,n,y,rfl,hn,hl,hc,ht,hfy⟩:=hi i H1;obtain⟨v0,v1,v2,v3,v4,t,rfl,hty,hfit⟩:=ih n hn cs y ht hfy;rw[yGZ];exact⟨t,⟨g,off,v0,v1,v2,v3,v4,rfl,hc 0 (by decide),hc 1 (by decide),hc 2 (by decide),hc 3 (by decide),hc 4 (by decide),hty⟩,hfit⟩
 obtain⟨l,hl,hp⟩:=zbxZ len H0;refine⟨l,⟨a,cap,by rw[hl],by omega,IsTys.mk fun m h=>(hp m h).1⟩,by omega,zllZ fun t ht=>?_⟩;obtain⟨i,hi,rfl⟩:=List.getElem_of_mem ht;exact(hp i hi).2
theorem zohZ:∀(fuel:Nat) (cs:List Value) (x:DataW H×List MemPlace),DataW.trod enc Tryz.prog W 0 sp held fuel 26 cs=some x->Fit Tryz.prog 26 x.1->TyRead W cs:=by
 intro fuel
 induction fuel using Nat.strongRecOn with
 | _ fuel ih=>
  intro cs x h hf;obtain⟨v0,v1,v2,v3,v4,rfl⟩:=zpnZ ((zeiZ uTy h).trans cTy);obtain⟨n0,y0,l0,h0,q0⟩:=ztZ 0 uTy fTy0 h hf;obtain⟨n1,y1,l1,h1,q1⟩:=ztZ 1 uTy fTy1 h hf;obtain⟨n2,y2,l2,h2,q2⟩:=ztZ 2 uTy fTy2 h hf;obtain⟨n3,y3,l3,h3,q3⟩:=ztZ 3 uTy fTy3 h hf;obtain⟨n4,y4,l4,h4,q4⟩:=ztZ 4 uTy fTy4 h hf;rw[cI]at h0;rw[cS]at h1;rw[cSls]at h2;rw[cSlb]at h3;rw[cSlt]at h4;simp only[List.drop_zero,List.drop_succ_cons,List.take_succ_cons,List.take_zero]at h0 h1 h2 h3 h4;obtain⟨k,e0,_,_⟩:=DataW.trod_int Tryz.underlying3 h0;injection e0 with e0;subst e0;obtain⟨nm,rfl,z1⟩:=zfaZ Tryz.underlying9 h1 q1;obtain⟨ns,r2,z2,z2'⟩:=zgcZ h2 q2;obtain⟨es,r3,z3⟩:=zkhZ h3 q3;obtain⟨ps,⟨A,c,rfl,hc,r4⟩,z4,z4'⟩:=zhbZ (fun n hn=>ih n (by omega)) h4 q4;refine⟨_,_,_,_,_,.mk k nm ns es ps,rfl,?_,?_⟩
  ·rw[IsTy];exact⟨_,_,A,c,rfl,r2,r3,hc,r4⟩
  ·rw[Sx.fits];exact⟨z1,z2,z3,z4,z2',z4'⟩
end
end Go.Proofs.YtdncljdfmdgdaaaGreatDoor
namespace Go.Proofs.YtdncljdfmdgdaaaGreatDoor
open Go.RowKit Go.Shelf
end Go.Proofs.YtdncljdfmdgdaaaGreatDoor
namespace Go.Proofs.YtdncljdfmdgdaaaGreatDoor
open Go.RowKit Go.WideMaps
theorem OwnS.row {w:World} {B:Nat} {v:Value} {l:List Lx.Bytes} (h:OwnS w B v l):StrRow w v l:=by
 obtain⟨A,c,hv⟩:=h.slice;refine⟨A,c,hv,fun i hi=>?_⟩;rcases h.2 with⟨h1,h0⟩ | ⟨g,cap,cur,h1,_,h2,_,_,_,h3⟩
 ·omega
 ·rw[hv]at h1;injection h1 with h1 _ _;refine⟨g,0,h1,?_⟩;rw[zdZ h2,yGZ,<-Array.getElem?_toList,<-List.getElem?_take_of_lt (l:=cur.toList) (j:=l.length * 1) (by omega),h3];simp[strsV,hi]
theorem zsmZ (l:List Sx.Ty) (v:Value) (W:World) (hn:Sx.sizeL l<=1000000) (hv:TyRow W v l) :
  Calls Tryz.prog 17 #[v] W fun e W'=>∃A,e=.returned (.slice A (Sx.once [] (Sx.allNamesL l)).length (Sx.once [] (Sx.allNamesL l)).length)/\StrRow W' (.slice A (Sx.once [] (Sx.allNamesL l)).length (Sx.once [] (Sx.allNamesL l)).length) (Sx.once [] (Sx.allNamesL l))/\Below W.heap.size W W':=by
 have H9:=@run_makeMap Tryz.prog;obtain⟨A,c,rfl,hcap,hl⟩:=hv;have hv:TyRow W (.slice A l.length c) l:=⟨A,c,rfl,hcap,hl⟩;have HV:=zh hv;clear hv hl;obtain⟨L,hL⟩:=zE (W.heap.size);have H0:∀X,(((W.alloc (.cells #[.slice none 0 0] 22)).alloc (.map #[] 0)).alloc (.cells #[.map (some (W.heap.size+1))] 107))=X->Met W.heap.size W.heap.size (W.heap.size+1+1) (W.heap.size+1) [] X/\Below W.heap.size W X:=by
  rintro X rfl;refine⟨⟨ybZ _,by omega,by omega,⟨.slice none 0 0,((Boxed.new W _ _).alloc _).alloc _,yOZ _ _ _ _⟩,?_,0,.map [],ybZ _,?_,Maps.isMap_empty,fun s=>rfl⟩,?_⟩
  ·have:=Boxed.new ((W.alloc (.cells #[.slice none 0 0] 22)).alloc (.map #[] 0)) 107 (.map (some (W.heap.size+1)));simpa using this
  ·have:=(World.ownsMap_made (W.alloc (.cells #[.slice none 0 0] 22)) Tryz.prog 9 (plainElem (H:=Unit) Tryz.prog 3)).alloc (.cells #[.map (some (W.heap.size+1))] 107);simpa using this
  ·exact(((yqZ _ W).alloc (ybZ _) _).alloc (by simp) _).alloc (by simp;omega) _
 have H2:=zh H0;clear H0;go_enter Tryz.func17, Tryz.ntmps17;obtain⟨X,hX⟩:=zE ((((W.alloc (.cells #[.slice none 0 0] 22)).alloc (.map #[] 0)).alloc (.cells #[.map (some (L+1))] 107)));have hh:=H2.o X (by rw[<-hX,hL]);have hcall:=zogZ W W.heap.size (W.heap.size+1+1) (W.heap.size+1) (Sx.sizeL l) l _ [] X (ybZ _) (by simpa using hn) HV.o hh.2 hh.1;rw[hL]at hcall;have HC:=zh hcall;clear hcall hh;go_wp2_with fail;refine HC.o.mono ?_;rintro e W3 ⟨rfl,⟨-,-,-,⟨u,H1,ho⟩,-,-⟩,H3,-⟩;have cL:=H1.cell;have H5:=H1.lt;rw[List.nil_append]at ho;obtain⟨A',c',rfl⟩:=ho.slice;have HO:=zh ho;have H4:=zh H3;obtain⟨r,hr⟩:=zE (Sx.once [] (Sx.allNamesL l));have HR:=zh hr;have H6:r.length<=1000000:=by have:=Sx.once_len (Sx.allNamesL l) [];have:=Sx.namesL_size l;rw[<-hr];simp at *;omega
 have H7:r.length<=c':=by
  rcases ho.2 with⟨h1,h0⟩ | ⟨g,cap,cur,h1,_,_,h2,_⟩
  ·rw[hr]at h0;omega
  ·rw[hr]at h1 h2;injection h1 with _ _ h1;omega
 have Ha:(r.length:Int)<=(c':Int):=by omega
 have H8:(0:Int)<=(r.length:Int):=by omega
 rw[hr]at cL;clear ho H1 H3 hr;go_wp2_with fail;go_ret;rw[HR.o];refine⟨A',rfl,?_,by rw[hL];exact H4.o⟩;obtain⟨A1,c1,h1,h2⟩:=HO.o.row;rw[HR.o]at h1 h2;injection h1 with h1 _ _;subst h1;exact⟨A',r.length,rfl,h2⟩
end Go.Proofs.YtdncljdfmdgdaaaGreatDoor
namespace Go.Proofs.YtdncljdfmdgdaaaGreatDoor
open Go.RowKit Go.Shelf
end Go.Proofs.YtdncljdfmdgdaaaGreatDoor
