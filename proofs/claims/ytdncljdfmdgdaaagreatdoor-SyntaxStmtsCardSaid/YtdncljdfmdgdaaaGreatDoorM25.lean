/-
  The walk of coillaw2.fits.
-/
import Derived.Test.YtdncljdfmdgdaaaGreatDoorM24
set_option linter.unusedSimpArgs false
set_option linter.unusedVariables false
set_option maxRecDepth 100000
set_option maxHeartbeats 4000000
namespace Go.Proofs.YtdncljdfmdgdaaaGreatDoor
open Go.RowKit Go.Shelf
theorem Sx.said_eq {ts:List Lx.Bytes} (h:Sx.Tks ts):Sx.said true ts=Sx.text ts:=by
 unfold Sx.said;rw[if_pos rfl];exact Sx.told_text fun s hs=>(h s hs).ne
theorem zvxZ (right:Bool) (ts:List Lx.Bytes) (A:Option Addr) (n c:Nat) (W:World)
  (hv:right=true->StrRow W (.slice A n c) ts/\ts.length<=1000000000/\Sx.Lks ts/\Sx.Tks ts) :
  Calls Tryz.prog 29 #[.string ⟨(Sx.said right ts).1.toArray⟩,.int .i64 ((Sx.said right ts).2:Nat),.bool right,.slice A n c] W fun e W'=>e=.returned (.bool true)/\Below W.heap.size W W':=by
 cases right with
 | false=>have HW:=zh (show Below W.heap.size W W from yqZ _ _);rw[show Sx.said false ts=([],1)from rfl];clear hv;go_enter Tryz.func29, Tryz.ntmps29;go_wp2_with fail;go_ret;exact⟨rfl,HW.o⟩
 | true=>obtain⟨h1,h2,h3,h4⟩:=hv rfl;rw[Sx.said_eq h4];have HT:=zh (fun X (hX:Below W.heap.size W X)=>(zvwZ ts (.slice A n c) X (h1.below hX) h2 (fun t ht=>by have:=h3 t ht;unfold Sx.Lk at this;omega)).mono fun e w' h=>(show e=.returned (.tuple #[.string ⟨(Sx.text ts).1.toArray⟩,.int .i64 ((Sx.text ts).2:Nat)])/\Below W.heap.size W w' from⟨h.1,hX.trans (h.2.mono hX.size)⟩));obtain⟨b,hb⟩:∃b,(⟨(Sx.text ts).1.toArray⟩:ByteArray)=b:=⟨_,rfl⟩;obtain⟨m,hm⟩:∃m:Int,(((Sx.text ts).2:Nat):Int)=m:=⟨_,rfl⟩;rw[hb,hm]at HT;rw[hb,hm];have HW:=zh (show Below W.heap.size W W from yqZ _ _);clear hv h1 h2 h3 h4 hb hm;go_enter Tryz.func29, Tryz.ntmps29;go_wp2_with (go_at_call 70;refine(HT.o _ HW.o).mono ?_;rintro e w3 ⟨rfl,H0⟩;have H1:=zh H0;clear H0);go_ret;exact⟨rfl,H1.o⟩
end Go.Proofs.YtdncljdfmdgdaaaGreatDoor
namespace Go.Proofs.YtdncljdfmdgdaaaGreatDoor
open Go.RowKit
section
variable {P:Program} {ops:Array Oper} {Q:Exit->Act->World->Prop} {md:Region.Mode}
def Waited (md:Region.Mode) (o:Oper) (listed:Array Bool):Prop:=(o.after.all fun e=>!Region.binds md e||listed.getD e.on false)=true
def backward (ops:Array Oper):Bool:=(List.range ops.size).all fun i=>((ops[i]?).map (·.after.all fun e=>e.on<i)).getD true
theorem zghZ {listed:Array Bool} {i:Nat} (hs:listed.size=ops.size):i∈Region.ready md ops listed↔∃o,ops[i]? =some o/\listed[i]? =some false/\Waited md o listed:=by
 unfold Region.ready Waited;simp only[List.mem_filter,List.mem_range,ygZ,Bool.not_eq_true'];constructor
 ·rintro⟨h1,h2,h3⟩;obtain⟨o,ho⟩:∃o,ops[i]? =some o:=⟨_,Array.getElem?_eq_getElem h1⟩;refine⟨o,ho,?_,?_⟩
  ·have hl:i<listed.size:=(by omega);rw[Array.getElem?_eq_getElem hl];simp only[Array.getD,hl,dif_pos]at h2;exact congrArg some h2
  ·rw[ho]at h3;simpa using h3
 ·rintro⟨o,ho,h2,h3⟩;have h1:i<ops.size:=(Array.getElem?_eq_some_iff.1 ho).1;refine⟨h1,?_,?_⟩
  ·obtain⟨hl,e⟩:=Array.getElem?_eq_some_iff.1 h2;simp only[Array.getD,hl,dif_pos];exact e
  ·rw[ho];simpa using h3
theorem zqmZ {listed:Array Bool} (hb:backward ops=true) (hs:listed.size=ops.size) (h:Region.ready md ops listed=[]):∀n i,i<n->i<ops.size->listed[i]? =some true:=by
 intro n
 induction n with
 | zero=>intro i hi;omega
 | succ n ih=>
  intro i hi hl;by_cases hin:i<n
  ·exact ih i hin hl
  ·obtain rfl:i=n:=(by omega);have H1:i<listed.size:=by omega
   cases hc:listed[i]'H1 with
   | true=>rw[Array.getElem?_eq_getElem H1,hc]
   | false=>obtain⟨o,ho⟩:∃o,ops[i]? =some o:=⟨_,Array.getElem?_eq_getElem hl⟩;have H0:i∈Region.ready md ops listed:=(by rw[zghZ hs];refine⟨o,ho,by rw[Array.getElem?_eq_getElem H1,hc],?_⟩;unfold Waited;rw[Array.all_eq_true'];intro e he;have H2:e.on<i:=(by unfold backward at hb;rw[yZZ]at hb;have:=hb i (List.mem_range.2 hl);rw[ho]at this;simp only[Option.map_some,Option.getD_some]at this;rw[Array.all_eq_true']at this;simpa using this e he);have:=ih e.on (by omega) (by omega);rw[yKZ];right;obtain⟨h1,h2⟩:=Array.getElem?_eq_some_iff.1 this;simp only[Array.getD,h1,dif_pos];exact h2);rw[h]at H0;cases H0
def undone (l:Array Bool):Nat:=l.toList.countP (· ==false)
theorem zoqZ {l:Array Bool} {i:Nat} (h:l[i]? =some false):undone (l.setIfInBounds i true)+1=undone l:=by
 unfold undone;obtain⟨hi,he⟩:=Array.getElem?_eq_some_iff.1 h;have hp:0<l.toList.countP (· ==false):=List.countP_pos_iff.2 ⟨false,by rw[<-he];exact Array.getElem_mem_toList hi,rfl⟩;rw[Array.toList_setIfInBounds,List.countP_set (by simpa using hi)];simp only[Array.getElem_toList,he,beq_self_eq_true,ycbZ,show(true==false)=false from rfl,Bool.false_eq_true,yXZ];omega
theorem zisZ {l:Array Bool} (h:∀i,i<l.size->l[i]? =some true):l=Array.replicate l.size true:=by
 apply Array.ext (by simp);intro i h1 h2;have:=h i h1;rw[Array.getElem?_eq_getElem h1]at this;injection this with this;rw[this];simp
theorem zmvZ (J:Array Bool->Act->World->Prop) (hb:backward ops=true)
  (hstep:∀(i:Nat) (o:Oper),ops[i]? =some o->∀(listed:Array Bool) (a:Act) (w:World),listed[i]? =some false->Waited md o listed->J listed a w->
   wpOp P ops Q i (J (listed.setIfInBounds i true)) a w)
  (hdone:∀a w,J (Array.replicate ops.size true) a w->Q .normal a w) :
  ∀(fuel:Nat) (listed:Array Bool) (a:Act) (w:World),listed.size=ops.size->undone listed<=fuel->J listed a w->wpAny P md ops Q fuel listed a w:=by
 intro fuel
 induction fuel with
 | zero=>
  intro listed a w hs hu hJ;have H0:∀i,i<listed.size->listed[i]? =some true:=by
   intro i hi
   cases hc:listed[i]'hi with
   | true=>rw[Array.getElem?_eq_getElem hi,hc]
   | false=>exfalso;have:0<undone listed:=List.countP_pos_iff.2 ⟨false,by rw[<-hc];exact Array.getElem_mem_toList hi,rfl⟩;omega
  refine⟨?_,hdone a w (by rw[<-hs,<-zisZ H0];exact hJ)⟩;rw[List.eq_nil_iff_forall_not_mem];intro i hi;obtain⟨o,ho,hf,-⟩:=(zghZ hs).1 hi;obtain⟨hl,-⟩:=Array.getElem?_eq_some_iff.1 hf;rw[H0 i hl]at hf;cases hf
 | succ fuel ih=>
  intro listed a w hs hu hJ;refine⟨fun h=>?_,fun i hi=>?_⟩
  ·refine hdone a w ?_;rw[<-hs,<-zisZ fun i hi=>zqmZ hb hs h (i+1) i (by omega) (by omega)];exact hJ
  ·obtain⟨o,ho,hf,hw⟩:=(zghZ hs).1 hi;refine wpOp_mono (fun a' w' h=>ih _ a' w' (by simpa using hs) ?_ h) (hstep i o ho listed a w hf hw hJ);have:=zoqZ hf;omega
def Each (P:Program) (ops:Array Oper) (md:Region.Mode) (Q:Exit->Act->World->Prop) (J:Array Bool->Act->World->Prop) (k:Nat) (l:List Oper):Prop:=
 ∀(j:Nat) (o:Oper),l[j]? =some o->∀(listed:Array Bool) (a:Act) (w:World),listed[k+j]? =some false->Waited md o listed->J listed a w->
  ∀K:Act->World->Prop,Hid (∀a w,J (listed.setIfInBounds (k+j) true) a w->K a w)->if Region.wanted o (yielded ops a.tmps)=true then Oper.wp P o a w K Q else K (a.put o.dst undef) w
theorem Each.nil {J:Array Bool->Act->World->Prop} {k:Nat} : Each P ops md Q J k []:=fun j o h=>by simp at h
theorem Each.cons {J:Array Bool->Act->World->Prop} {k:Nat} {o:Oper} {l:List Oper}
  (h:∀(listed:Array Bool) (a:Act) (w:World),listed[k]? =some false->Waited md o listed->J listed a w->
   ∀K:Act->World->Prop,Hid (∀a w,J (listed.setIfInBounds k true) a w->K a w)->if Region.wanted o (yielded ops a.tmps)=true then Oper.wp P o a w K Q else K (a.put o.dst undef) w)
  (hl:Each P ops md Q J (k+1) l):Each P ops md Q J k (o::l):=by
 intro j o' hj
 cases j with
 | zero=>simp only[List.getElem?_cons_zero,Option.some.injEq]at hj;subst hj;exact h
 | succ j=>simp only[List.getElem?_cons_succ]at hj;have:=hl j o' hj;rw[show k+1+j=k+(j+1)by omega]at this;exact this
theorem zitZ {id:Nat} {a:Act} {w:World} (J:Act->Array Bool->Act->World->Prop) (hm:P.follows .mixedOrders=true) (hb:backward ops=true)
  (h0:J a (Array.replicate ops.size false) a w.drew) (hstep:Each P ops .any Q (J a) 0 ops.toList) (hdone:∀a' w',J a (Array.replicate ops.size true) a' w'->Q .normal a' w') :
  (Code.region id ops true).wp P Q a w:=by
 refine wp_region_any hm (zmvZ (J a) hb ?_ hdone ops.size _ a w.drew (by simp) ?_ h0)
 ·intro i o ho listed a' w' hf hw hJ;refine wpOp_step ho fun K hK=>?_;have:=hstep i o (by rw[Array.getElem?_toList];exact ho) listed a' w' (by rw[yGZ];exact hf) hw hJ K (by rw[yGZ];exact hK);exact this
 ·unfold undone;have:=List.countP_le_length (l:=(Array.replicate ops.size false).toList) (p:=(· ==false));simpa using this
def firstDone (n i:Nat):Array Bool:=((List.range n).map fun j=>decide (j<i)).toArray
theorem zgiZ {n i j:Nat} (h:j<n):(firstDone n i)[j]? =some (decide (j<i)):=by
 unfold firstDone;simp[h]
theorem zjhZ (n:Nat):firstDone n 0=Array.replicate n false:=by
 apply Array.ext (by simp[firstDone]);intro i h1 h2;simp[firstDone]
theorem zklZ (n:Nat):firstDone n n=Array.replicate n true:=by
 apply Array.ext (by simp[firstDone]);intro i h1 h2;have:i<n:=by simpa using h2
 simp[firstDone,this]
theorem zkmZ {n i:Nat} : (firstDone n i).setIfInBounds i true=firstDone n (i+1):=by
 apply Array.ext (by simp[firstDone]);intro j h1 h2;have hj:j<n:=by simpa[firstDone]using h2
 by_cases hij:i=j
 ·subst hij;rw[Array.getElem_setIfInBounds_self];simp[firstDone]
 ·rw[Array.getElem_setIfInBounds_ne]
  ·simp[firstDone];omega
  ·simpa[firstDone]using hj
  ·exact hij
theorem zmwZ (J:Array Bool->Act->World->Prop) (hb:backward ops=true)
  (hstep:∀(i:Nat) (o:Oper),ops[i]? =some o->∀(listed:Array Bool) (a:Act) (w:World),listed[i]? =some false->Waited .any o listed->J listed a w->wpOp P ops Q i (J (listed.setIfInBounds i true)) a w)
  (hdone:∀a w,J (Array.replicate ops.size true) a w->Q .normal a w) :
  ∀(n i:Nat) (a:Act) (w:World),i+n=ops.size->J (firstDone ops.size i) a w->wpOps P ops Q (List.range' i n) a w:=by
 intro n
 induction n with
 | zero=>intro i a w hi hJ;rw[ypZ]at hi;subst hi;rw[zklZ]at hJ;exact hdone a w hJ
 | succ n ih=>intro i a w hi hJ;rw[List.range'_succ,wpOps_cons];have H1:i<ops.size:=(by omega);obtain⟨o,ho⟩:∃o,ops[i]? =some o:=⟨_,Array.getElem?_eq_getElem H1⟩;refine wpOp_mono (fun a' w' h=>ih (i+1) a' w' (by omega) h) ?_;rw[<-zkmZ];refine hstep i o ho _ a w (by rw[zgiZ H1];simp) ?_ hJ;unfold Waited;rw[Array.all_eq_true'];intro e he;have H0:e.on<i:=(by unfold backward at hb;rw[yZZ]at hb;have:=hb i (List.mem_range.2 H1);rw[ho]at this;simp only[Option.map_some,Option.getD_some]at this;rw[Array.all_eq_true']at this;simpa using this e he);rw[yKZ];right;have:=zgiZ (n:=ops.size) (i:=i) (j:=e.on) (by omega);rw[Array.getD_eq_getD_getElem?,this];simpa using H0
theorem zknZ {id:Nat} {a:Act} {w:World} (J:Act->Array Bool->Act->World->Prop) (hb:backward ops=true)
  (h0:J a (Array.replicate ops.size false) a w) (hstep:Each P ops .any Q (J a) 0 ops.toList) (hdone:∀a' w',J a (Array.replicate ops.size true) a' w'->Q .normal a' w') :
  (Code.region id ops false).wp P Q a w:=by
 refine wp_region ?_;rw[List.range_eq_range'];refine zmwZ (J a) hb ?_ hdone ops.size 0 a w (by omega) (by rw[zjhZ];exact h0);intro i o ho listed a' w' hf hw hJ;refine wpOp_step ho fun K hK=>?_;exact hstep i o (by rw[Array.getElem?_toList];exact ho) listed a' w' (by rw[yGZ];exact hf) hw hJ K (by rw[yGZ];exact hK)
end
def fillAct (u:Nat->Value):List Oper->Nat->Act->Act
 | [],_,a=>a
 | o::l,k,a=>fillAct u l (k+1) (a.put o.dst (u k))
def upd (u:Nat->Value) (i:Nat) (x:Value):Nat->Value:=fun j=>if j=i then x else u j
def slots (l:List Oper):List Tmp:=l.filterMap (·.dst)
def slotAt (l:List Oper) (i:Nat):Option Tmp:=(l[i]?).bind (·.dst)
theorem zfpZ {u v:Nat->Value} : ∀(l:List Oper) (k:Nat) (a:Act),(∀j,k<=j->u j=v j)->fillAct u l k a=fillAct v l k a
 | [],k,a,h=>rfl
 | o::l,k,a,h=>by rw[fillAct,fillAct,h k (ybZ _)];exact zfpZ l (k+1) _ fun j hj=>h j (by omega)
theorem zvyZ (a:Act) (d:Option Tmp) (x y:Value):(a.put d x).put d y=a.put d y:=by
 cases d with
 | none=>rfl
 | some d=>simp[Act.put]
theorem zdmZ {u:Nat->Value} (d:Option Tmp) (x:Value):∀(l:List Oper) (k:Nat) (a:Act),(∀t,d=some t->t ∉ slots l)->(fillAct u l k a).put d x=fillAct u l k (a.put d x)
 | [],k,a,h=>rfl
 | o::l,k,a,h=>by
  rw[fillAct,fillAct,zdmZ d x l (k+1) _ (fun t ht hm=>h t ht ?_),Act.put_comm a _ _ ?_]
  ·intro t ht he;exact h t he (by unfold slots;rw[List.filterMap_cons,ht];exact ysZ)
  ·unfold slots at hm ⊢;rw[List.filterMap_cons];split
   ·exact hm
   ·exact ywZ _ hm
theorem zbuZ {o:Oper} {l:List Oper} (h:(slots (o::l)).Nodup):(slots l).Nodup/\∀t,o.dst=some t->t ∉ slots l:=by
 unfold slots at h ⊢;rw[List.filterMap_cons]at h
 cases hd:o.dst with
 | none=>rw[hd]at h;exact⟨h,fun t ht=>by cases ht⟩
 | some d=>rw[hd]at h;obtain⟨h1,h2⟩:=List.nodup_cons.1 h;exact⟨h2,fun t ht=>by injection ht with ht;subst ht;exact h1⟩
theorem zhgZ {u:Nat->Value} (x:Value):∀(l:List Oper) (k i:Nat) (a:Act) (o:Oper),(slots l).Nodup->l[i]? =some o->(fillAct u l k a).put o.dst x=fillAct (upd u (k+i) x) l k a
 | [],k,i,a,o,hn,h=>by simp at h
 | o'::l,k,0,a,o,hn,h=>by simp only[List.getElem?_cons_zero,Option.some.injEq]at h;subst h;rw[fillAct,fillAct,zdmZ _ x l (k+1) _ (zbuZ hn).2,zvyZ];rw[show upd u (k+0) x k=x by simp[upd]];exact zfpZ l (k+1) _ fun j hj=>by simp only[upd];rw[if_neg (by omega)]
 | o'::l,k,i+1,a,o,hn,h=>by simp only[List.getElem?_cons_succ]at h;rw[fillAct,fillAct,zhgZ x l (k+1) i _ o (zbuZ hn).1 h,show k+1+i=k+(i+1)by omega];rw[show upd u (k+(i+1)) x k=u k by simp only[upd];rw[if_neg (by omega)]]
theorem ztnZ (a:Act) (d:Tmp):a.put (some d) (a.eval (.tmp d))=a:=by
 cases a with
 | mk t ds=>
  simp only[Act.put,Act.eval]
  congr 1
  apply Array.ext (by simp);intro i h1 h2;rw[Array.getElem_setIfInBounds]
  ·split
   ·rename_i he;subst he;simp[h2]
   ·rfl
theorem zgjZ {u:Nat->Value} (a:Act):∀(l:List Oper) (k:Nat),(∀i d,slotAt l i=some d->u (k+i)=a.eval (.tmp d))->fillAct u l k a=a
 | [],k,h=>rfl
 | o::l,k,h=>by
  have h0:a.put o.dst (u k)=a:=by
   cases hd:o.dst with
   | none=>rfl
   | some d=>rw[show u k=a.eval (.tmp d)from h 0 d (by simp[slotAt,hd])];exact ztnZ a d
  rw[fillAct,h0];exact zgjZ a l (k+1) fun i d hd=>by have:=h (i+1) d (by simpa[slotAt]using hd);rw[show k+1+i=k+(i+1)by omega];exact this
theorem ztoZ (a:Act) (d:Option Tmp) (x:Value):(a.put d x).tmps.size=a.tmps.size:=by
 cases d <;> simp[Act.put]
theorem zdlZ {u:Nat->Value} : ∀(l:List Oper) (k:Nat) (a:Act) (d:Tmp),d ∉ slots l->(fillAct u l k a).eval (.tmp d)=a.eval (.tmp d)
 | [],k,a,d,h=>rfl
 | o::l,k,a,d,h=>by have h1:d ∉ slots l:=fun hm=>h (by unfold slots at hm ⊢;rw[List.filterMap_cons];split;exact hm;exact ywZ _ hm);rw[fillAct,zdlZ l (k+1) _ d h1];refine Act.eval_put fun t ht he=>?_;injection he with he;subst he;exact h (by unfold slots;rw[List.filterMap_cons,ht];exact ysZ)
theorem zgkZ {u:Nat->Value} : ∀(l:List Oper) (k i:Nat) (a:Act) (d:Tmp),(slots l).Nodup->slotAt l i=some d->d<a.tmps.size->(fillAct u l k a).eval (.tmp d)=u (k+i)
 | [],k,i,a,d,hn,h,hs=>by simp[slotAt]at h
 | o::l,k,0,a,d,hn,h,hs=>by have hd:o.dst=some d:=(by simpa[slotAt]using h);rw[fillAct,zdlZ l (k+1) _ d ((zbuZ hn).2 d hd),hd];simp[Act.put,Act.eval,hs]
 | o::l,k,i+1,a,d,hn,h,hs=>by rw[fillAct,zgkZ l (k+1) i _ d (zbuZ hn).1 (by simpa[slotAt]using h) (by rw[ztoZ];exact hs),show k+1+i=k+(i+1)by omega]
section
variable {P:Program} {ops:Array Oper} {Q:Exit->Act->World->Prop}
def edge (ops:List Oper) (i j:Nat):Bool:=((ops[i]?).map fun o=>o.after.any fun e=>Region.binds .any e&&e.on==j).getD false
def nextK (apps:List Nat) (i k:Nat):Nat:=if apps.contains i then k+1 else k
def slotsIn (ops:List Oper) (n:Nat):Bool:=ops.all fun o=>match o.dst with | some d=>decide (d<n) | none=>true
def slotsOk (ops:List Oper):Bool:=decide (slots ops).Nodup
def appsOk (apps:List Nat) (n:Nat):Bool:=decide apps.Nodup&&apps.all (· < n)
def chained (ops:List Oper):List Nat->Bool
 | i::j::l=>edge ops j i&&chained ops (j::l)
 | _=>true
theorem zglZ {ops:List Oper} : ∀(l:List Nat) (e i j:Nat),chained ops l=true->l[e]? =some i->l[e+1]? =some j->edge ops j i=true
 | [],e,i,j,h,h1,h2=>by simp at h1
 | [x],e,i,j,h,h1,h2=>by simp at h2
 | x::y::l,0,i,j,h,h1,h2=>by simp at h1 h2;subst h1 h2;rw[chained,ygZ]at h;exact h.1
 | x::y::l,e+1,i,j,h,h1,h2=>by rw[chained,ygZ]at h;exact zglZ (y::l) e i j h.2 (by simpa using h1) (by simpa using h2)
theorem zqnZ {l:List Nat} (h:l.Nodup):∀ {i j:Nat} (hi:i<l.length) (hj:j<l.length),l[i]=l[j]->i=j:=by
 induction l with
 | nil=>intro i j hi;simp at hi
 | cons x l ih=>
  obtain⟨h1,h2⟩:=List.nodup_cons.1 h;intro i j hi hj e
  cases i with
  | zero=>
   cases j with
   | zero=>rfl
   | succ j=>exact absurd (by simp at e;rw[e];exact yfZ _) h1
  | succ i=>
   cases j with
   | zero=>exact absurd (by simp at e;rw[<-e];exact yfZ _) h1
   | succ j=>exact congrArg (· +1) (ih h2 (by simpa using hi) (by simpa using hj) (by simpa using e))
def upon2 (P:Program) (K:Value->World->Prop):Result Next->Prop
 | .ok (.value v) w'=>K v w'
 | .ok .skip w'=>K undef w'
 | .ok (.enter f args) w'=>Calls P f args w' fun e w''=>∃v,e=.returned v/\K v w''
 | _=>False
theorem zoZ (K:Value->World->Prop) (v:Value) (w:World):upon2 P K (.ok (.value v) w)=K v w:=rfl
theorem zvZ (K:Value->World->Prop) (w:World):upon2 P K (.ok .skip w)=K undef w:=rfl
theorem zpZ (K:Value->World->Prop) (f:FuncId) (args:Array Value) (w:World):upon2 P K (.ok (.enter f args) w)=Calls P f args w fun e w''=>∃v,e=.returned v/\K v w'':=rfl
def opWp (P:Program) (o:Oper) (ρ:Operand->Value) (w:World) (K:Value->World->Prop):Prop:=upon2 P K ((execOp ρ o).run P w)
theorem ziuZ {o:Oper} {A:Act} {w:World} {K:Act->World->Prop} (h:opWp P o A.eval w fun v w'=>K (A.put o.dst v) w'):o.wp P A w K Q:=by
 unfold Oper.wp;unfold opWp at h;generalize (execOp A.eval o).run P w=r at *
 cases r with
 | ok n w'=>
  cases n <;> simp only[Oper.upon,upon2]at h ⊢
  case value=>exact h
  case skip=>exact h
  case enter=>exact Calls.mono h fun e w'' he=>by obtain⟨v,rfl,he⟩:=he;exact he
 | halt x w'=>exact absurd h (by simp[upon2])
def guarded (ops:List Oper) (u:Nat->Value) (o:Oper) (K:Value->World->Prop) (w:World) (X:Prop):Prop:=
 match o.guard with
 | none=>X
 | some (g,b)=>(slotAt ops g).isSome=true/\(u g=.bool b->X)/\(u g≠.bool b->K undef w)
def OpOk (P:Program) (Q:Exit->Act->World->Prop) (ops:Array Oper) (a:Act) (apps:List Nat) (I:Nat->World->Value->Prop) (M:World->Value->Nat->World->Value->Nat->Prop)
  (F:Nat->Value->World->Value->Nat->Prop) (i:Nat) (o:Oper):Prop:=
 ∀(ρ:Operand->Value) (u:Nat->Value) (L:Nat->Prop) (w:World) (r:Value) (k:Nat),
  (∀d j,slotAt ops.toList j=some d->ρ (.tmp d)=u j)->
  (∀d,(slots ops.toList).contains d=false->ρ (.tmp d)=a.eval (.tmp d))->(∀v,ρ (.const v)=v)->(∀g,ρ (.global g)=.pointer (some ⟨g,0,none⟩))->(∀f,ρ (.func f)=.func (.func f) #[] #[])->
  (∀j,edge ops.toList i j=true->L j)->(∀j j',edge ops.toList j j'=true->L j->L j')->¬L i->
  (∀j,L j->F j (u j) w r k)->(∀d j,slotAt ops.toList j=some d->¬L j->u j=a.eval (.tmp d))->
  (∀j e,apps[e]? =some j->(L j↔e<k))->I k w r->
  ∀K:Value->World->Prop,Hid (∀x w' r',M w r k w' r' (nextK apps i k)->I (nextK apps i k) w' r'->F i x w' r' (nextK apps i k)->K x w')->
   guarded ops.toList u o K w (opWp P o ρ w K)
def OpsOk (P:Program) (Q:Exit->Act->World->Prop) (ops:Array Oper) (a:Act) (apps:List Nat) (I:Nat->World->Value->Prop) (M:World->Value->Nat->World->Value->Nat->Prop)
  (F:Nat->Value->World->Value->Nat->Prop) (k:Nat) (l:List Oper):Prop:=∀j o,l[j]? =some o->OpOk P Q ops a apps I M F (k+j) o
theorem OpsOk.nil {a:Act} {apps:List Nat} {I:Nat->World->Value->Prop} {M:World->Value->Nat->World->Value->Nat->Prop} {F:Nat->Value->World->Value->Nat->Prop} {k:Nat} : OpsOk P Q ops a apps I M F k []:=fun j o h=>by simp at h
theorem OpsOk.cons {a:Act} {apps:List Nat} {I:Nat->World->Value->Prop} {M:World->Value->Nat->World->Value->Nat->Prop} {F:Nat->Value->World->Value->Nat->Prop} {k:Nat} {o:Oper} {l:List Oper}
  (h:OpOk P Q ops a apps I M F k o) (hl:OpsOk P Q ops a apps I M F (k+1) l):OpsOk P Q ops a apps I M F k (o::l):=by
 intro j o' hj
 cases j with
 | zero=>simp only[List.getElem?_cons_zero,Option.some.injEq]at hj;subst hj;exact h
 | succ j=>simp only[List.getElem?_cons_succ]at hj;have:=hl j o' hj;rw[show k+1+j=k+(j+1)by omega]at this;exact this
def Stays (M:World->Value->Nat->World->Value->Nat->Prop) (f:Value->World->Value->Nat->Prop):Prop:=∀x w r k w' r' k',M w r k w' r' k'->f x w r k->f x w' r' k'
def AllStay (M:World->Value->Nat->World->Value->Nat->Prop) (Fs:List (Value->World->Value->Nat->Prop)):Prop:=∀f∈Fs,Stays M f
theorem AllStay.nil {M:World->Value->Nat->World->Value->Nat->Prop} : AllStay M []:=fun f h=>by cases h
theorem AllStay.cons {M:World->Value->Nat->World->Value->Nat->Prop} {f:Value->World->Value->Nat->Prop} {Fs:List (Value->World->Value->Nat->Prop)} (h:Stays M f) (hs:AllStay M Fs):AllStay M (f::Fs):=by
 intro g hg;rcases yTZ.1 hg with rfl | hg
 ·exact h
 ·exact hs g hg
def nth (Fs:List (Value->World->Value->Nat->Prop)) (j:Nat):Value->World->Value->Nat->Prop:=Fs.getD j fun _ _ _ _=>True
def RJ (ops:Array Oper) (apps:List Nat) (I:Nat->World->Value->Prop) (F:Nat->Value->World->Value->Nat->Prop):Act->Array Bool->Act->World->Prop:=
 fun a listed a' w'=>∃(u:Nat->Value) (r:Value) (k:Nat),listed.size=ops.size/\k<=apps.length/\a'=fillAct u ops.toList 0 a/\I k w' r/\
  (∀j e:Nat,apps[e]? =some j->(listed[j]? =some true↔e<k))/\(∀j j',edge ops.toList j j'=true->listed[j]? =some true->listed[j']? =some true)/\
  (∀j,listed[j]? =some true->F j (u j) w' r k)/\(∀d j,slotAt ops.toList j=some d->¬listed[j]? =some true->u j=a.eval (.tmp d))
theorem RJ_start {a:Act} {w:World} {apps:List Nat} {I:Nat->World->Value->Prop} {F:Nat->Value->World->Value->Nat->Prop} {R0:Value} (h0:I 0 w R0):RJ ops apps I F a (Array.replicate ops.size false) a w:=by
 refine⟨fun j=>match slotAt ops.toList j with | some d=>a.eval (.tmp d) | none=>undef,R0,0,by simp,yxZ _,?_,h0,?_,?_,?_,?_⟩
 ·refine(zgjZ a _ 0 fun i d hd=>?_).symm;rw[yGZ];simp only[hd]
 ·intro j e he;constructor
  ·intro h;rw[Array.getElem?_replicate]at h;split at h <;> simp at h
  ·intro h;omega
 ·intro j j' _ h;rw[Array.getElem?_replicate]at h;split at h <;> simp at h
 ·intro j h;rw[Array.getElem?_replicate]at h;split at h <;> simp at h
 ·intro d j hd _;simp only[hd]
theorem RJ_step {a:Act} {apps:List Nat} {I:Nat->World->Value->Prop} {M:World->Value->Nat->World->Value->Nat->Prop}
  {Fs:List (Value->World->Value->Nat->Prop)} (hb:backward ops=true) (hs:slotsOk ops.toList=true) (hr:slotsIn ops.toList a.tmps.size=true) (ha:appsOk apps ops.size=true) (hch:chained ops.toList apps=true)
  (hF:AllStay M Fs) (hstep:OpsOk P Q ops a apps I M (nth Fs) 0 ops.toList):Each P ops .any Q (RJ ops apps I (nth Fs) a) 0 ops.toList:=by
 have Hh:(slots ops.toList).Nodup:=by simpa[slotsOk]using hs
 have H5:∀i d,slotAt ops.toList i=some d->d<a.tmps.size:=by intro i d hd;unfold slotsIn at hr;rw[yZZ]at hr;unfold slotAt at hd;obtain⟨o,ho,hod⟩:=Option.bind_eq_some_iff.1 hd;have:=hr o (List.mem_of_getElem? ho);rw[hod]at this;simpa using this
 obtain⟨hapn,hapr⟩:apps.Nodup/\∀j∈apps,j<ops.size:=by simpa[appsOk]using ha
 have H7:∀e e' j:Nat,apps[e]? =some j->apps[e']? =some j->e=e':=by intro e e' j h1 h2;obtain⟨l1,g1⟩:=List.getElem?_eq_some_iff.1 h1;obtain⟨l2,g2⟩:=List.getElem?_eq_some_iff.1 h2;exact zqnZ hapn l1 l2 (g1.trans g2.symm)
 have H6:∀j,Stays M (nth Fs j):=by
  intro j;unfold nth;rw[List.getD_eq_getElem?_getD]
  cases hj:Fs[j]? with
  | none=>exact fun _ _ _ _ _ _ _ _ _=>trivial
  | some f=>exact hF f (List.mem_of_getElem? hj)
 intro i o ho listed A w' hf hw hJ K hK;obtain⟨u,r,k,hsz,hk,hA,hI,hap,hcl,hfc,hun⟩:=hJ;rw[yGZ]at hf;rw[yGZ]at hK;have hi:i<ops.size:=by rw[<-hsz];exact(Array.getElem?_eq_some_iff.1 hf).1
 have H2:∀j:Nat,(listed.setIfInBounds i true)[j]? =some true↔(j=i\/listed[j]? =some true):=by
  intro j;by_cases H1:j=i
  ·subst H1;simp[hsz,hi]
  ·rw[Array.getElem?_setIfInBounds_ne (Ne.symm H1)];simp[H1]
 have H0:∀j,edge ops.toList i j=true->listed[j]? =some true:=by
  intro j hj;unfold edge at hj;rw[ho]at hj;simp only[Option.map_some,Option.getD_some,Array.any_eq_true',ygZ,ytZ]at hj;obtain⟨e,he,hbnd,rfl⟩:=hj;unfold Waited at hw;rw[Array.all_eq_true']at hw;have:=hw e he;rw[hbnd]at this;simp only[Bool.not_true,Bool.false_or]at this
  cases hx:listed[e.on]? with
  | none=>simp[Array.getD_eq_getD_getElem?,hx]at this
  | some b=>simp[Array.getD_eq_getD_getElem?,hx]at this;rw[this]
 have Hg:¬listed[i]? =some true:=by rw[hf];simp
 have H3:∀d j,slotAt ops.toList j=some d->A.eval (.tmp d)=u j:=fun d j hd=>by rw[hA];have:=zgkZ (u:=u) ops.toList 0 j a d Hh hd (H5 j d hd);rw[yGZ]at this;exact this
 have Hc:=hstep i o ho A.eval u (fun j=>listed[j]? =some true) w' r k H3 (fun d hd=>by rw[hA];exact zdlZ ops.toList 0 a d (by simpa using hd)) (fun _=>rfl) (fun _=>rfl) (fun _=>rfl)
  (by rw[yGZ];exact H0) hcl (by rw[yGZ];exact Hg) hfc hun hap hI (fun v w''=>K (A.put o.dst v) w'')
 rw[yGZ]at Hc
 suffices hK2:∀x w'' r',M w' r k w'' r' (nextK apps i k)->I (nextK apps i k) w'' r'->nth Fs i x w'' r' (nextK apps i k)->K (A.put o.dst x) w'' by
  have:=Hc (zh hK2);unfold guarded at this
  cases hg:o.guard with
  | none=>rw[hg]at this;rw[if_pos (by unfold Region.wanted;rw[hg])];exact ziuZ this
  | some gb=>
   obtain⟨g,b⟩:=gb;rw[hg]at this;obtain⟨hsome,h1,h2⟩:=this;obtain⟨d,hd⟩:=Option.isSome_iff_exists.1 hsome;have H8:=H3 d g hd;have He:(ops[g]?).bind (·.dst)=some d:=(by unfold slotAt at hd;rw[Array.getElem?_toList]at hd;exact hd);by_cases hcb:u g=.bool b
   ·rw[hcb]at H8;have H4:d<A.tmps.size:=by
     rcases Nat.lt_or_ge d A.tmps.size with h | h
     ·exact h
     ·simp[Act.eval,undef,Nat.not_lt.2 h]at H8
    have hy:yielded ops A.tmps g=some b:=(by unfold yielded;rw[He];simp only[Option.bind_some];simp only[Act.eval,Array.getD,dif_pos H4]at H8;rw[Array.getElem?_eq_getElem H4];rw[show A.tmps[d]=.bool b from H8]);have Ha:Region.wanted o (yielded ops A.tmps)=true:=(by unfold Region.wanted;rw[hg];simp only[hy];simp);rw[if_pos Ha];exact ziuZ (h1 hcb)
   ·have Ha:¬Region.wanted o (yielded ops A.tmps)=true:=by
     unfold Region.wanted;rw[hg];intro hw;simp only[ytZ]at hw;unfold yielded at hw;rw[He]at hw;simp only[Option.bind_some]at hw
     cases ht:A.tmps[d]? with
     | none=>rw[ht]at hw;cases hw
     | some x=>rw[ht]at hw;have H4:=(Array.getElem?_eq_some_iff.1 ht).1;have hx:u g=x:=(by rw[<-H8];simp only[Act.eval,Array.getD,dif_pos H4];rw[Array.getElem?_eq_getElem H4]at ht;exact Option.some.inj ht);apply hcb;rw[hx];cases x <;> simp at hw;subst hw;rfl
    rw[if_neg Ha];exact h2 hcb
 intro x w'' r' hM hI' hFi;refine hK.o _ _ ?_;have Hd:(apps.contains i=true/\∃e,apps[e]? =some i/\nextK apps i k=k+1/\e=k)\/(apps.contains i=false/\nextK apps i k=k):=by
  cases hc:apps.contains i with
  | false=>right;exact⟨rfl,by unfold nextK;rw[hc];rfl⟩
  | true=>left;refine⟨rfl,?_⟩;have Hb:i∈apps:=(by simpa using hc);obtain⟨e,he⟩:=List.mem_iff_getElem?.1 Hb;refine⟨e,he,by unfold nextK;rw[hc];rfl,?_⟩;have h1:¬e<k:=fun h=>Hg ((hap i e he).2 h);have h2:¬k<e:=(by intro H4;obtain⟨e,rfl⟩:∃e',e=e'+1:=⟨e-1,by omega⟩;have H9:e<apps.length:=(by have:=(List.getElem?_eq_some_iff.1 he).1;omega);have Hf:=List.getElem?_eq_getElem H9;have:=(hap _ e Hf).1 (H0 _ (zglZ apps e _ i hch Hf he));omega);omega
 refine⟨upd u i x,r',nextK apps i k,by simpa using hsz,?_,?_,hI',?_,?_,?_,?_⟩
 ·rcases Hd with⟨-,e,he,hk1,rfl⟩ | ⟨-,hk1⟩
  ·rw[hk1];exact(List.getElem?_eq_some_iff.1 he).1
  ·rw[hk1];exact hk
 ·rw[hA,zhgZ x ops.toList 0 i a o Hh ho,yGZ]
 ·intro j e he;rw[H2,hap j e he];rcases Hd with⟨-,e',he',hk1,rfl⟩ | ⟨hc,hk1⟩
  ·rw[hk1];constructor
   ·rintro(rfl | h)
    ·rw[H7 _ _ _ he he'];omega
    ·omega
   ·intro h;by_cases H4:e<e'
    ·exact .inr H4
    ·obtain rfl:e=e':=(by omega);left;rw[he]at he';injection he'
  ·rw[hk1];constructor
   ·rintro(rfl | h)
    ·exfalso;have:apps.contains j=true:=(by simpa using List.mem_of_getElem? he);rw[hc]at this;cases this
    ·exact h
   ·exact .inr
 ·intro j j' he hj;rw[H2]at hj ⊢;rcases hj with rfl | hj
  ·exact .inr (H0 j' he)
  ·exact .inr (hcl j j' he hj)
 ·intro j hj;rw[H2]at hj;by_cases H1:j=i
  ·subst H1;rw[show upd u j x j=x by simp[upd]];exact hFi
  ·rw[show upd u i x j=u j by simp[upd,H1]];exact H6 j _ _ _ _ _ _ _ hM (hfc j (by rcases hj with h | h;exact absurd h H1;exact h))
 ·intro d j hd hj;rw[H2]at hj;have H1:j≠i:=fun h=>hj (.inl h);rw[show upd u i x j=u j by simp[upd,H1]];exact hun d j hd fun h=>hj (.inr h)
theorem RJ_done {a:Act} {apps:List Nat} {I:Nat->World->Value->Prop} {Fs:List (Value->World->Value->Nat->Prop)} (ha:appsOk apps ops.size=true) {n:Nat} (hn:ops.size=n)
  (hdone:∀(u:Nat->Value) (w':World) (r:Value),I apps.length w' r->(∀j,j<n->nth Fs j (u j) w' r apps.length)->Q .normal (fillAct u ops.toList 0 a) w') :
  ∀a' w',RJ ops apps I (nth Fs) a (Array.replicate ops.size true) a' w'->Q .normal a' w':=by
 obtain⟨hapn,hapr⟩:apps.Nodup/\∀j∈apps,j<ops.size:=by simpa[appsOk]using ha
 intro a' w' hJ;obtain⟨u,r,k,hsz,hk,rfl,hI,hap,hcl,hfc,hun⟩:=hJ;have H0:∀j,j<ops.size->(Array.replicate ops.size true)[j]? =some true:=fun j hj=>by rw[Array.getElem?_replicate,if_pos hj]
 obtain rfl:k=apps.length:=by
  cases Nat.lt_or_ge k apps.length with
  | inr h=>omega
  | inl h=>have:=(hap apps[k] k (List.getElem?_eq_getElem h)).1 (H0 _ (hapr _ (yfZ h)));omega
 exact hdone u w' r hI fun j hj=>hfc j (H0 j (by rw[hn];exact hj))
theorem zbcZ {id:Nat} {a:Act} {w:World} (hm:P.follows .mixedOrders=true) (apps:List Nat) (I:Nat->World->Value->Prop) (M:World->Value->Nat->World->Value->Nat->Prop)
  (Fs:List (Value->World->Value->Nat->Prop)) (R0:Value) (hb:backward ops=true) (hs:slotsOk ops.toList=true) (hr:slotsIn ops.toList a.tmps.size=true) (ha:appsOk apps ops.size=true) (hch:chained ops.toList apps=true)
  (hF:AllStay M Fs) {n:Nat} (hn:ops.size=n) (h0:I 0 w.drew R0) (hstep:OpsOk P Q ops a apps I M (nth Fs) 0 ops.toList)
  (hdone:∀(u:Nat->Value) (w':World) (r:Value),I apps.length w' r->(∀j,j<n->nth Fs j (u j) w' r apps.length)->Q .normal (fillAct u ops.toList 0 a) w') :
  (Code.region id ops true).wp P Q a w:=
 zitZ (RJ ops apps I (nth Fs)) hm hb (RJ_start h0) (RJ_step hb hs hr ha hch hF hstep) (RJ_done ha hn hdone)
theorem zwZ {id:Nat} {a:Act} {w:World} (apps:List Nat) (I:Nat->World->Value->Prop) (M:World->Value->Nat->World->Value->Nat->Prop)
  (Fs:List (Value->World->Value->Nat->Prop)) (R0:Value) (hb:backward ops=true) (hs:slotsOk ops.toList=true) (hr:slotsIn ops.toList a.tmps.size=true) (ha:appsOk apps ops.size=true) (hch:chained ops.toList apps=true)
  (hF:AllStay M Fs) {n:Nat} (hn:ops.size=n) (h0:I 0 w R0) (hstep:OpsOk P Q ops a apps I M (nth Fs) 0 ops.toList)
  (hdone:∀(u:Nat->Value) (w':World) (r:Value),I apps.length w' r->(∀j,j<n->nth Fs j (u j) w' r apps.length)->Q .normal (fillAct u ops.toList 0 a) w') :
  (Code.region id ops false).wp P Q a w:=
 zknZ (RJ ops apps I (nth Fs)) hb (RJ_start h0) (RJ_step hb hs hr ha hch hF hstep) (RJ_done ha hn hdone)
end
end Go.Proofs.YtdncljdfmdgdaaaGreatDoor
namespace Go.Proofs.YtdncljdfmdgdaaaGreatDoor
open Go.RowKit Go.Shelf
structure Mv (w:World) (r:Value) (w':World) (r':Value):Prop where
 g:w.grownBy w' r.ownBlock
 own:∀k,r'.ownBlock=some k->r.ownBlock=some k\/w.heap.size<=k
theorem Mv.refl (w:World) (r:Value):Mv w r w r:=⟨⟨rfl,rfl,rfl,ybZ _,fun _ _ _=>rfl⟩,fun _ h=>.inl h⟩
theorem Mv.of_below {w w':World} (r:Value) (h:Below w.heap.size w w'):Mv w r w' r:=⟨⟨h.os,h.tape,h.output,h.size,fun k hk _=>h.block k hk⟩,fun _ h=>.inl h⟩
theorem Mv.first {w w':World} {r r':Value} (h:Below w.heap.size w w') (hr:∀k,r'.ownBlock=some k->w.heap.size<=k):Mv w r w' r':=⟨⟨h.os,h.tape,h.output,h.size,fun k hk _=>h.block k hk⟩,fun k hk=>.inr (hr k hk)⟩
theorem zyZ {B:Nat} {w0 w w':World} {r r':Value} (hb:Below B w0 w) (hB:B<=w.heap.size) (h:Mv w r w' r') (hr:∀k,r.ownBlock=some k->B<=k):Below B w0 w':=
 ⟨h.g.os.trans hb.os,h.g.tape.trans hb.tape,h.g.output.trans hb.output,ymZ hb.size h.g.size,fun k hk=>(h.g.block k (by omega) fun e=>by have:=hr k e.symm;omega).trans (hb.block k hk)⟩
def Str (w:World) (v:Value) (m:List Lx.Bytes) (r:Value):Prop:=
 ∃A c,v=.slice A m.length c/\∀j u,(strsV m)[j]? =some u->∃g off,A=some ⟨g,off,none⟩/\w.cell? ⟨g,off+j,none⟩=some u/\r.ownBlock≠some g
theorem Str.mv {w w':World} {v r r':Value} {m:List Lx.Bytes} (h:Str w v m r) (hm:Mv w r w' r'):Str w' v m r':=by
 obtain⟨A,c,hv,hl⟩:=h;refine⟨A,c,hv,fun j u hj=>?_⟩;obtain⟨g,off,hA,hc,hr⟩:=hl j u hj;have hg:=World.block_lt_of_cell? w ⟨g,off+j,none⟩ hc;refine⟨g,off,hA,(World.cell?_of_block (hm.g.block g hg fun e=>hr e.symm)).trans hc,fun e=>?_⟩;rcases hm.own g e with h | h
 ·exact hr h
 ·exact absurd hg (Nat.not_lt.2 h)
theorem Str.one {w:World} {g:Nat} {s:Lx.Bytes} {r:Value} {c:Nat} {t:TypeId} {fr:Nat×Nat} (h:w.heap[g]? =some (.cells #[.string ⟨s.toArray⟩] t fr)) (hr:∀k,r.ownBlock=some k->k<g):Str w (.slice (some ⟨g,0,none⟩) 1 c) [s] r:=by
 refine⟨_,c,rfl,fun j u hj=>⟨g,0,rfl,?_,fun e=>by have:=hr g e;omega⟩⟩;rw[yGZ,zdZ h,<-Array.getElem?_toList];exact hj
theorem Str.of_own {w:World} {B:Nat} {v r:Value} {m:List Lx.Bytes} (h:OwnS w B v m) (hr:∀k,r.ownBlock=some k->k<B):Str w v m r:=by
 have H0:=h.row;obtain⟨A,c,rfl⟩:=h.slice;refine⟨A,c,rfl,fun j u hj=>?_⟩;obtain⟨g,off,hA,hc⟩:=H0.cells.2 j u hj;refine⟨g,off,hA,hc,fun e=>?_⟩;have h1:=hr g e;have h2:=World.ownsRow.lt h g ?_
 ·omega
 ·rcases h.2 with⟨h3,-⟩ | ⟨g',cap,cur,h3,-⟩
  ·rw[hA]at h3;injection h3 with h3;cases h3
  ·injection h3 with h3;rw[hA]at h3;injection h3 with h3;injection h3 with h3;subst h3;rw[hA]
   subst_vars
   rfl
theorem OwnS.lt {w:World} {B:Nat} {v:Value} {l:List Lx.Bytes} (h:OwnS w B v l) (k:Nat) (hk:v.ownBlock=some k):B<=k/\k<w.heap.size:=World.ownsRow.lt h k hk
theorem OwnS.below {w w':World} {B:Nat} {v:Value} {l:List Lx.Bytes} (h:OwnS w B v l) (hb:Below w.heap.size w w'):OwnS w' B v l:=
 World.ownsRow.kept h (zbhZ hb) (by cases v.ownBlock <;> simp)
theorem OwnS.base_le {w:World} {B B':Nat} {v:Value} {l:List Lx.Bytes} (h:OwnS w B v l) (hb:B'<=B):OwnS w B' v l:=by
 refine⟨h.1,?_⟩;rcases h.2 with hn | ⟨g,cap,cur,rfl,hg,rest⟩
 ·exact .inl hn
 ·exact .inr ⟨g,cap,cur,rfl,by omega,rest⟩
theorem zgmZ (l m:List Lx.Bytes):strsV (l++m)=strsV l++strsV m:=by unfold strsV;rw[List.map_append]
theorem zqoZ {w:World} {o:Oper} {a:Act} {K:Act->World->Prop} {Q:Exit->Act->World->Prop} (s x:Operand)
  (ho:o.op=.call { callee:=.builtin .append,args:=#[s,x],argTypes:=#[22, 22] })
  {B:Nat} {r v:Value} {l m:List Lx.Bytes} (hs:a.eval s=r) (hx:a.eval x=v) (hown:OwnS w B r l) (hv:Str w v m r) (hm:0<m.length) (hn:l.length+m.length<=100000000) (hB:B<=w.heap.size)
  (h:∀r' w',OwnS w' B r' (l++m)->Mv w r w' r'->K (a.put o.dst r') w'):o.wp Tryz.prog a w K Q:=by
 obtain⟨i,hi,hz0,hz1,hz2⟩:=info_parts zdsZ;obtain⟨A,c,rfl,hl⟩:=hv;obtain⟨ad,rfl⟩:∃ad,A=some ad:=by
  cases m with
  | nil=>simp at hm
  | cons u m=>obtain⟨g,off,h,-⟩:=hl 0 _ (by simp[strsV];rfl);exact⟨_,h⟩
 refine zdjZ s x 22 ho B 9 i _ 1 16 Tryz.underlying22 hi hz0 hz1 hz2 rfl (by decide) r l.length (strsV l) hs hown ad m.length c (strsV m) hx (by unfold strsV;simp) ?_ (zgbZ m) (by unfold maxLen;omega) (by omega) hB ?_
 ·intro j u hj;obtain⟨g,off,hA,hc,-⟩:=hl j u hj;injection hA with hA;subst hA;rw[zclZ];exact hc
 ·intro v' w' hown' hg H0;refine h v' w' ?_ ⟨hg,fun k hk=>?_⟩
  ·unfold OwnS;rw[zgmZ,ycZ];exact hown'
  ·rcases H0 with h | h
   ·exact .inl (h.symm.trans hk)
   ·right;rw[h]at hk;injection hk with hk;omega
theorem zlZ {w:World} {ops:Array Oper} {rest:List Oper} {o:Oper} {a:Act} {Q:Exit->Act->World->Prop} (hgd:o.guard=none) (s x:Operand)
  (ho:o.op=.call { callee:=.builtin .append,args:=#[s,x],argTypes:=#[22, 22] })
  {B:Nat} {r v:Value} {l m:List Lx.Bytes} (hs:a.eval s=r) (hx:a.eval x=v) (hown:OwnS w B r l) (hv:Str w v m r) (hm:0<m.length) (hn:l.length+m.length<=100000000) (hB:B<=w.heap.size)
  (h:∀r' w',OwnS w' B r' (l++m)->Mv w r w' r'->wpList Tryz.prog ops Q rest (a.put o.dst r') w'):wpList Tryz.prog ops Q (o::rest) a w:=
 wpList_plain hgd fun K hK=>zqoZ s x ho hs hx hown hv hm hn hB fun A c h2 h3=>hK _ _ (h A c h2 h3)
def RowI (B:Nat) (W:World) (R0:Value) (Ls:Nat->List Lx.Bytes):Nat->World->Value->Prop:=fun k w r=>Below B W w/\OwnS w B r (Ls k)/\(k=0->r=R0)
def RowM:World->Value->Nat->World->Value->Nat->Prop:=fun w r k w' r' k'=>Mv w r w' r'/\k<=k'/\(k'=k->r'=r)
def AppF (j:Nat):Value->World->Value->Nat->Prop:=fun x _ r k=>j+1<=k/\(k=j+1->r=x)
def StrF (m:List Lx.Bytes):Value->World->Value->Nat->Prop:=fun x w r _=>Str w x m r
def IsF (v:Value):Value->World->Value->Nat->Prop:=fun x _ _ _=>x=v
theorem IsF.stays {M:World->Value->Nat->World->Value->Nat->Prop} {v:Value} : Stays M (IsF v):=fun _ _ _ _ _ _ _ _ h=>h
theorem AppF.stays {j:Nat} : Stays RowM (AppF j):=fun x w r k w' r' k' hm h=>by
 obtain⟨-,h2,h3⟩:=hm;refine⟨by have:=h.1;omega,fun e=>?_⟩;have hk:k'=k:=by have:=h.1;omega
 rw[h3 hk];exact h.2 (by omega)
theorem StrF.stays {m:List Lx.Bytes} : Stays RowM (StrF m):=fun x w r k w' r' k' hm h=>Str.mv h hm.1
theorem RowM.of_below {w w':World} {r:Value} {k:Nat} (h:Below w.heap.size w w'):RowM w r k w' r k:=⟨Mv.of_below r h,ybZ _,fun _=>rfl⟩
theorem RowM.refl {w:World} {r:Value} {k:Nat} : RowM w r k w r k:=⟨Mv.refl w r,ybZ _,fun _=>rfl⟩
theorem RowM.first {w w':World} {r r':Value} {l:List Lx.Bytes} (h:Below w.heap.size w w') (ho:OwnS w' w.heap.size r' l):RowM w r 0 w' r' 1:=⟨Mv.first h fun k hk=>(ho.lt k hk).1,by omega,fun e=>by omega⟩
theorem RowI.first {B:Nat} {W w w':World} {R0 r':Value} {Ls:Nat->List Lx.Bytes} {l:List Lx.Bytes} (h:Below B W w) (hB:B<=W.heap.size) (hb:Below w.heap.size w w') (ho:OwnS w' w.heap.size r' l) (hl:Ls 1=l):RowI B W R0 Ls 1 w' r':=
 ⟨h.trans (hb.mono (ymZ hB h.size)),by rw[hl];exact ho.base_le (ymZ hB h.size),fun e=>by omega⟩
theorem AppF.first {x:Value} {w:World} : AppF 0 x w x 1:=⟨ybZ _,fun _=>rfl⟩
theorem Str.older {B:Nat} {W w:World} {v r:Value} {m:List Lx.Bytes} (h:StrRow W v m) (he:W.heap.size=B) (hb:Below B W w) (hr:∀k,r.ownBlock=some k->B<=k):Str w v m r:=by
 subst he;obtain⟨A,c,rfl,hl⟩:=id h;refine⟨A,c,rfl,fun j u hj=>?_⟩;obtain⟨g,off,hA,hc⟩:=h.cells.2 j u hj;have hg:=World.block_lt_of_cell? W ⟨g,off+j,none⟩ hc;exact⟨g,off,hA,(World.cell?_of_block (hb.block g hg)).trans hc,fun e=>absurd hg (Nat.not_lt.2 (hr g e))⟩
theorem RowI.below {B:Nat} {W w w':World} {R0 r:Value} {Ls:Nat->List Lx.Bytes} {k:Nat} (h:RowI B W R0 Ls k w r) (hB:B<=W.heap.size) (hb:Below w.heap.size w w'):RowI B W R0 Ls k w' r:=
 ⟨h.1.trans (hb.mono (ymZ hB h.1.size)),h.2.1.below hb,h.2.2⟩
theorem zbqZ {Fs:List (Value->World->Value->Nat->Prop)} {j:Nat} {f:Value->World->Value->Nat->Prop} (h:nth Fs j=f) {x:Value} {w:World} {r:Value} {k:Nat} (hh:nth Fs j x w r k):f x w r k:=by rw[h]at hh;exact hh
theorem zboZ {Fs:List (Value->World->Value->Nat->Prop)} {j:Nat} {f:Value->World->Value->Nat->Prop} (h:nth Fs j=f) {x:Value} {w:World} {r:Value} {k:Nat} (hh:f x w r k):nth Fs j x w r k:=by rw[h];exact hh
theorem Str.arr {w:World} {g:Nat} {m:List Lx.Bytes} {r:Value} {c:Nat} {t:TypeId} {fr:Nat×Nat} {cs:Array Value} (h:w.heap[g]? =some (.cells cs t fr)) (hcs:cs.toList=strsV m) (hr:∀k,r.ownBlock=some k->k<g):Str w (.slice (some ⟨g,0,none⟩) m.length c) m r:=by
 refine⟨_,c,rfl,fun j u hj=>⟨g,0,rfl,?_,fun e=>by have:=hr g e;omega⟩⟩;rw[yGZ,zdZ h,<-Array.getElem?_toList,hcs];exact hj
theorem OwnS.arr {w:World} {g B:Nat} {l:List Lx.Bytes} {cs:Array Value} (h:w.heap[g]? =some (.cells cs 9 (0,0))) (hcs:cs.toList=strsV l) (hm:l.length<=maxLen) (hb:B<=g):OwnS w B (.slice (some ⟨g,0,none⟩) l.length l.length) l:=by
 refine⟨by simp[strsV],.inr ⟨g,l.length,cs,rfl,hb,h,ybZ _,hm,?_,?_⟩⟩
 ·rw[<-Array.length_toList,hcs];simp[strsV]
 ·rw[hcs];exact yjZ (by simp[strsV])
theorem zhrZ {apps:List Nat} {i k:Nat} (h:apps.contains i=false):nextK apps i k=k:=by unfold nextK;rw[h];rfl
theorem zceZ {apps:List Nat} {i k:Nat} (h:apps.contains i=true):nextK apps i k=k+1:=by unfold nextK;rw[h];rfl
attribute [local go_sem] opWp zoZ zvZ zpZ
section
variable {P:Program} {ops:Array Oper} {Q:Exit->Act->World->Prop} {a:Act} {apps:List Nat} {I:Nat->World->Value->Prop} {M:World->Value->Nat->World->Value->Nat->Prop} {Fs:List (Value->World->Value->Nat->Prop)} {i:Nat} {o:Oper}
theorem OpOk.plain (hi:apps.contains i=false) (hg:o.guard=none)
  (h:∀(ρ:Operand->Value) (u:Nat->Value) (L:Nat->Prop) (w:World) (r:Value) (k:Nat),
   (∀d j,slotAt ops.toList j=some d->ρ (.tmp d)=u j)->(∀d,(slots ops.toList).contains d=false->ρ (.tmp d)=a.eval (.tmp d))->(∀v,ρ (.const v)=v)->(∀g,ρ (.global g)=.pointer (some ⟨g,0,none⟩))->(∀f,ρ (.func f)=.func (.func f) #[] #[])->
   (∀j,edge ops.toList i j=true->L j)->(∀j j',edge ops.toList j j'=true->L j->L j')->¬L i->
   (∀j,L j->nth Fs j (u j) w r k)->(∀d j,slotAt ops.toList j=some d->¬L j->u j=a.eval (.tmp d))->(∀j e,apps[e]? =some j->(L j↔e<k))->I k w r->
   ∀K:Value->World->Prop,Hid (∀x w' r',M w r k w' r' k->I k w' r'->nth Fs i x w' r' k->K x w')->opWp P o ρ w K):OpOk P Q ops a apps I M (nth Fs) i o:=by
 intro ρ u L w r k h1 h2 h3 h4 h5 h6 h7 h8 h9 H0 H2 H1 K hK;rw[zhrZ hi]at hK;unfold guarded;rw[hg];exact h ρ u L w r k h1 h2 h3 h4 h5 h6 h7 h8 h9 H0 H2 H1 K hK
theorem OpOk.guard (hi:apps.contains i=false) {g:Nat} {b:Bool} (hg:o.guard=some (g,b)) (hgs:(slotAt ops.toList g).isSome=true)
  (h:∀(ρ:Operand->Value) (u:Nat->Value) (L:Nat->Prop) (w:World) (r:Value) (k:Nat),
   (∀d j,slotAt ops.toList j=some d->ρ (.tmp d)=u j)->(∀d,(slots ops.toList).contains d=false->ρ (.tmp d)=a.eval (.tmp d))->(∀v,ρ (.const v)=v)->(∀g,ρ (.global g)=.pointer (some ⟨g,0,none⟩))->(∀f,ρ (.func f)=.func (.func f) #[] #[])->
   (∀j,edge ops.toList i j=true->L j)->(∀j j',edge ops.toList j j'=true->L j->L j')->¬L i->
   (∀j,L j->nth Fs j (u j) w r k)->(∀d j,slotAt ops.toList j=some d->¬L j->u j=a.eval (.tmp d))->(∀j e,apps[e]? =some j->(L j↔e<k))->I k w r->
   ∀K:Value->World->Prop,Hid (∀x w' r',M w r k w' r' k->I k w' r'->nth Fs i x w' r' k->K x w')->∃c,u g=.bool c/\(c=b->opWp P o ρ w K)/\(c≠b->K undef w)):OpOk P Q ops a apps I M (nth Fs) i o:=by
 intro ρ u L w r k h1 h2 h3 h4 h5 h6 h7 h8 h9 H0 H2 H1 K hK;rw[zhrZ hi]at hK;unfold guarded;rw[hg];obtain⟨c,hc,h13,h14⟩:=h ρ u L w r k h1 h2 h3 h4 h5 h6 h7 h8 h9 H0 H2 H1 K hK;refine⟨hgs,fun e=>h13 ?_,fun e=>h14 fun e2=>e ?_⟩
 ·rw[hc]at e;injection e
 ·rw[hc,e2]
theorem zcpZ {ρ:Operand->Value} {w:World} {K:Value->World->Prop} {fn:Func} {c:Code} {f:FuncId} {xs:Array Operand} {ats:Array TypeId} {args:Array Value}
  (ho:o.op=.call { callee:=.value (.func f),args:=xs,argTypes:=ats }) (hf:P.funcs[f]? =some fn) (hname:(fn.name== "runtime.NumGoroutine")=false) (hb:fn.body=some c)
  (hfun:ρ (.func f)=.func (.func f) #[] #[]) (ha:xs.map ρ=args) (h:Calls P f args w fun e w''=>∃v,e=.returned v/\K v w''):opWp P o ρ w K:=by
 have h1:fn.name≠ "runtime.NumGoroutine" :=by simpa using hname
 unfold opWp execOp;rw[ho];simp[resolve,Deferred.ofValue,invoke,hfun,callFunc,hf,h1,hb,ha,upon2];exact h
theorem zdgZ {ρ:Operand->Value} {w:World} {K:Value->World->Prop} (x:Operand) {v:Value} (ho:o.op=.move x) (hx:ρ x=v) (h:K v w):opWp P o ρ w K:=by
 unfold opWp execOp;rw[ho];show K (ρ x) w;rw[hx];exact h
theorem zhhZ {ρ:Operand->Value} {w:World} {K:Value->World->Prop} (x:Operand) {v:Value} (ho:o.op=.assign x) (hx:ρ x=v) (h:K v w):opWp P o ρ w K:=by
 unfold opWp execOp;rw[ho];show K (ρ x) w;rw[hx];exact h
end
section
variable {ops:Array Oper} {Q:Exit->Act->World->Prop} {a:Act} {apps:List Nat} {Fs:List (Value->World->Value->Nat->Prop)} {i:Nat} {o:Oper} {B:Nat} {W:World} {R0:Value} {Ls:Nat->List Lx.Bytes}
theorem zjvZ {w:World} {o:Oper} {ρ:Operand->Value} {K:Value->World->Prop} (s x:Operand)
  (ho:o.op=.call { callee:=.builtin .append,args:=#[s,x],argTypes:=#[22, 22] })
  {B:Nat} {r v:Value} {l m:List Lx.Bytes} (hs:ρ s=r) (hx:ρ x=v) (hown:OwnS w B r l) (hv:Str w v m r) (hm:0<m.length) (hn:l.length+m.length<=100000000) (hB:B<=w.heap.size)
  (h:∀r' w',OwnS w' B r' (l++m)->Mv w r w' r'->K r' w'):opWp Tryz.prog o ρ w K:=by
 obtain⟨i,hi,hz0,hz1,hz2⟩:=info_parts zdsZ;obtain⟨A,c,rfl,hl⟩:=hv;obtain⟨ad,rfl⟩:∃ad,A=some ad:=by
  cases m with
  | nil=>simp at hm
  | cons u m=>obtain⟨g,off,h,-⟩:=hl 0 _ (by simp[strsV];rfl);exact⟨_,h⟩
 obtain⟨v',w',hr,h2,h3,h4,h5⟩:=run_append_own_at (P:= Tryz.prog) w B 22 o.type 9 i _ 1 16 Tryz.underlying22 hi hz0 hz1 hz2 rfl (by decide) r l.length (strsV l) hown ad m.length c (strsV m) (by unfold strsV;simp) (by
  intro j u hj;obtain⟨g,off,hA,hc,-⟩:=hl j u hj;injection hA with hA;subst hA;rw[zclZ]
  exact hc) (zgbZ m) (by unfold maxLen;omega) (by omega) hB
 unfold opWp execOp;simp only[ho,resolve,invoke,builtin,Sem.run_bind,Sem.run_pure,Result.andThen_ok,yIZ,yPZ,yRZ,hs,hx,hr];refine h v' w' ?_ ⟨h3,fun k hk=>?_⟩
 ·unfold OwnS;rw[zgmZ,ycZ];exact h2
 ·rcases h5 with h | h
  ·exact .inl (h.symm.trans hk)
  ·right;rw[h]at hk;injection hk with hk;omega
theorem OpOk.app {j:Nat} {m:List Lx.Bytes} (s x:Operand) (hi:apps[j]? =some i) (hg:o.guard=none)
  (ho:o.op=.call { callee:=.builtin .append,args:=#[s,x],argTypes:=#[22, 22] }) (hF:nth Fs i=AppF j) (hLs:Ls (j+1)=Ls j++m)
  (hm:0<m.length) (hn:(Ls j).length+m.length<=100000000) (hB:B<=W.heap.size)
  (h:∀(ρ:Operand->Value) (u:Nat->Value) (L:Nat->Prop) (w:World) (r:Value) (k:Nat),
   (∀d j,slotAt ops.toList j=some d->ρ (.tmp d)=u j)->(∀d,(slots ops.toList).contains d=false->ρ (.tmp d)=a.eval (.tmp d))->
   (∀j,edge ops.toList i j=true->L j)->(∀j j',edge ops.toList j j'=true->L j->L j')->
   (∀j,L j->nth Fs j (u j) w r k)->k<=j->RowI B W R0 Ls k w r->(k=j/\ρ s=r)/\∃v,ρ x=v/\Str w v m r):OpOk Tryz.prog Q ops a apps (RowI B W R0 Ls) RowM (nth Fs) i o:=by
 intro ρ u L w r k h1 h2 h3 h4 h5 h6 h7 h8 h9 H3 H2 H0 K hK;have H1:k<=j:=by have:=H2 i j hi;have H4:¬j<k:=fun hlt=>h8 (this.2 hlt);omega
 obtain⟨⟨rfl,hs⟩,v,hv,hst⟩:=h ρ u L w r k h1 h2 h6 h7 h9 H1 H0;have hc:apps.contains i=true:=by simpa using List.mem_of_getElem? hi
 rw[zceZ hc]at hK;unfold guarded;rw[hg];obtain⟨hb,how,h0⟩:=H0;refine zjvZ s x ho hs hv how hst hm hn (ymZ hB hb.size) fun r' w' ho' hmv=>?_;refine hK.o _ _ r' ⟨hmv,Nat.le_succ _,fun e=>by omega⟩ ⟨zyZ hb (ymZ hB hb.size) hmv (fun g hg=>(how.lt g hg).1),by rw[hLs];exact ho',fun e=>by omega⟩ ?_;rw[hF];exact⟨ybZ _,fun _=>rfl⟩
theorem OpOk.head {l:List Nat} (hi:apps=i::l) (hg:o.guard=none) (hF:nth Fs i=AppF 0)
  (h:∀(ρ:Operand->Value) (u:Nat->Value) (L:Nat->Prop) (w:World) (r:Value) (k:Nat),
   (∀d j,slotAt ops.toList j=some d->ρ (.tmp d)=u j)->(∀d,(slots ops.toList).contains d=false->ρ (.tmp d)=a.eval (.tmp d))->(∀v,ρ (.const v)=v)->(∀g,ρ (.global g)=.pointer (some ⟨g,0,none⟩))->(∀f,ρ (.func f)=.func (.func f) #[] #[])->
   (∀j,edge ops.toList i j=true->L j)->(∀j j',edge ops.toList j j'=true->L j->L j')->¬L i->
   (∀j,L j->nth Fs j (u j) w r k)->(∀d j,slotAt ops.toList j=some d->¬L j->u j=a.eval (.tmp d))->RowI B W R0 Ls 0 w r->
   ∀K:Value->World->Prop,Hid (∀x w' r',RowM w r 0 w' r' 1->RowI B W R0 Ls 1 w' r'->nth Fs i x w' r' 1->K x w')->opWp Tryz.prog o ρ w K):OpOk Tryz.prog Q ops a apps (RowI B W R0 Ls) RowM (nth Fs) i o:=by
 intro ρ u L w r k h1 h2 h3 h4 h5 h6 h7 h8 h9 H0 H1 H2 K hK;obtain rfl:k=0:=by have:=H1 i 0 (by rw[hi];rfl);have H3:¬0<k:=fun hlt=>h8 (this.2 hlt);omega
 have hc:apps.contains i=true:=by rw[hi];simp
 rw[zceZ hc]at hK;unfold guarded;rw[hg];exact h ρ u L w r 0 h1 h2 h3 h4 h5 h6 h7 h8 h9 H0 H2 K hK
end
def reads (ops:List Oper) (i d q:Nat):Bool:=(slotAt ops q==some d)&&edge ops i q
def pathOk (ops:List Oper):List Nat->Bool
 | x::y::l=>edge ops x y&&pathOk ops (y::l)
 | _=>true
def behind (ops:List Oper) (i d q:Nat) (l:List Nat):Bool:=(slotAt ops q==some d)&&pathOk ops (q::l)&&((q::l).getLast? ==some i)
structure Ev (ops:List Oper) (a:Act) (Fs:List (Value->World->Value->Nat->Prop)) (i:Nat) (ρ:Operand->Value) (w:World) (r:Value) (k:Nat):Prop where
 x:∀(d q:Nat) {f:Value->World->Value->Nat->Prop},reads ops i d q=true->nth Fs q=f->f (ρ (.tmp d)) w r k
 n:∀d,(slots ops).contains d=false->ρ (.tmp d)=a.eval (.tmp d)
 z:∀(d q:Nat) (l:List Nat),behind ops i d q l=true->ρ (.tmp d)=a.eval (.tmp d)
 c:∀v,ρ (.const v)=v
 g:∀g,ρ (.global g)=.pointer (some ⟨g,0,none⟩)
 f:∀f,ρ (.func f)=.func (.func f) #[] #[]
theorem Ev.e {ops:List Oper} {a:Act} {Fs:List (Value->World->Value->Nat->Prop)} {i:Nat} {ρ:Operand->Value} {w:World} {r:Value} {k:Nat} (E:Ev ops a Fs i ρ w r k) (d q:Nat) {v:Value} (h:reads ops i d q=true) (hF:nth Fs q=IsF v):ρ (.tmp d)=v:=E.x d q h hF
theorem zetZ {ops:List Oper} {L:Nat->Prop} (hC:∀j j',edge ops j j'=true->L j->L j'):∀(l:List Nat) (q i:Nat),pathOk ops (q::l)=true->(q::l).getLast? =some i->L q->L i
 | [],q,i,_,h,hq=>by simp at h;rw[<-h];exact hq
 | y::l,q,i,hp,h,hq=>by rw[pathOk,ygZ]at hp;exact zetZ hC l y i hp.2 (by simpa using h) (hC q y hp.1 hq)
section
variable {P:Program} {ops:Array Oper} {Q:Exit->Act->World->Prop} {a:Act} {apps:List Nat} {I:Nat->World->Value->Prop} {M:World->Value->Nat->World->Value->Nat->Prop} {Fs:List (Value->World->Value->Nat->Prop)} {i:Nat} {o:Oper}
theorem Ev.mk' {ρ:Operand->Value} {u:Nat->Value} {L:Nat->Prop} {w:World} {r:Value} {k:Nat}
  (h1:∀d j,slotAt ops.toList j=some d->ρ (.tmp d)=u j) (h2:∀d,(slots ops.toList).contains d=false->ρ (.tmp d)=a.eval (.tmp d)) (h3:∀v,ρ (.const v)=v) (h4:∀g,ρ (.global g)=.pointer (some ⟨g,0,none⟩)) (h5:∀f,ρ (.func f)=.func (.func f) #[] #[])
  (h6:∀j,edge ops.toList i j=true->L j) (h7:∀j j',edge ops.toList j j'=true->L j->L j') (h8:¬L i)
  (h9:∀j,L j->nth Fs j (u j) w r k) (h10:∀d j,slotAt ops.toList j=some d->¬L j->u j=a.eval (.tmp d)):Ev ops.toList a Fs i ρ w r k:=by
 refine⟨fun d q f h hf=>?_,h2,fun d q l h=>?_,h3,h4,h5⟩
 ·unfold reads at h;simp only[ygZ,ytZ]at h;rw[h1 d q h.1,<-hf];exact h9 q (h6 q h.2)
 ·unfold behind at h;simp only[ygZ,ytZ]at h;rw[h1 d q h.1.1];exact h10 d q h.1.1 fun hq=>h8 (zetZ h7 l q i h.1.2 h.2 hq)
theorem OpOk.val {v:Value} (hi:apps.contains i=false) (hg:o.guard=none) (hF:nth Fs i=IsF v) (hM:∀w r k,M w r k w r k)
  (h:∀(ρ:Operand->Value) (w:World) (r:Value) (k:Nat),Ev ops.toList a Fs i ρ w r k->I k w r->∀K:Value->World->Prop,K v w->opWp P o ρ w K):OpOk P Q ops a apps I M (nth Fs) i o:=
 OpOk.plain hi hg fun ρ u L w r k h1 h2 h3 h4 h5 h6 h7 h8 h9 h10 h11 h12 K hK=>h ρ w r k (Ev.mk' h1 h2 h3 h4 h5 h6 h7 h8 h9 h10) h12 K (hK.o v w r (hM w r k) h12 (zboZ hF rfl))
theorem OpOk.mov {v:Value} {d:Nat} (hi:apps.contains i=false) (hg:o.guard=none) (hF:nth Fs i=IsF v) (hM:∀w r k,M w r k w r k) (ho:o.op=.move (.tmp d))
  (h:∀(ρ:Operand->Value) (w:World) (r:Value) (k:Nat),Ev ops.toList a Fs i ρ w r k->ρ (.tmp d)=v):OpOk P Q ops a apps I M (nth Fs) i o:=
 OpOk.val hi hg hF hM fun ρ w r k E _ K hK=>zdgZ (.tmp d) ho (h ρ w r k E) hK
end
section
variable {ops:Array Oper} {Q:Exit->Act->World->Prop} {a:Act} {apps:List Nat} {Fs:List (Value->World->Value->Nat->Prop)} {i:Nat} {o:Oper} {B:Nat} {W:World} {R0:Value} {Ls:Nat->List Lx.Bytes}
theorem RowM.rf (w:World) (r:Value) (k:Nat):RowM w r k w r k:=RowM.refl
theorem OpOk.asg {j d q:Nat} (hi:apps.contains i=false) (hg:o.guard=none) (hF:nth Fs i=AppF j) (hq:nth Fs q=AppF j) (ho:o.op=.assign (.tmp d)) (hr:reads ops.toList i d q=true):OpOk Tryz.prog Q ops a apps (RowI B W R0 Ls) RowM (nth Fs) i o:=
 OpOk.plain hi hg fun ρ u L w r k h1 h2 h3 h4 h5 h6 h7 h8 h9 h10 h11 h12 K hK=>zhhZ (.tmp d) ho rfl (hK.o _ _ _ RowM.refl h12 (zboZ hF ((Ev.mk' h1 h2 h3 h4 h5 h6 h7 h8 h9 h10).x d q hr hq)))
theorem OpOk.one {m:List Lx.Bytes} (hi:apps.contains i=false) (hg:o.guard=none) (hF:nth Fs i=StrF m) (hB:B<=W.heap.size)
  (h:∀(ρ:Operand->Value) (w:World) (r:Value) (k:Nat),Ev ops.toList a Fs i ρ w r k->RowI B W R0 Ls k w r->∀K:Value->World->Prop,(∀cs:Array Value,cs.toList=strsV m->K (.slice (some ⟨w.heap.size,0,none⟩) m.length m.length) (w.alloc (.cells cs 9)))->opWp Tryz.prog o ρ w K):OpOk Tryz.prog Q ops a apps (RowI B W R0 Ls) RowM (nth Fs) i o:=
 OpOk.plain hi hg fun ρ u L w r k h1 h2 h3 h4 h5 h6 h7 h8 h9 h10 h11 h12 K hK=>h ρ w r k (Ev.mk' h1 h2 h3 h4 h5 h6 h7 h8 h9 h10) h12 K fun cs hcs=>
  hK.o _ _ _ (RowM.of_below ((yqZ _ _).alloc (ybZ _) _)) (RowI.below h12 hB ((yqZ _ _).alloc (ybZ _) _)) (zboZ hF (Str.arr (m:=m) (ydZ w _) hcs fun g hg=>(h12.2.1.lt g hg).2))
theorem OpOk.call {m:List Lx.Bytes} {fn:Func} {c:Code} {f:FuncId} {xs:Array Operand} {ats:Array TypeId} {args:Array Value} (hi:apps.contains i=false) (hg:o.guard=none) (hF:nth Fs i=StrF m) (hB:B<=W.heap.size)
  (ho:o.op=.call { callee:=.value (.func f),args:=xs,argTypes:=ats }) (hf : Tryz.prog.funcs[f]? =some fn) (hname:(fn.name== "runtime.NumGoroutine")=false) (hb:fn.body=some c)
  (ha:∀(ρ:Operand->Value) (w:World) (r:Value) (k:Nat),Ev ops.toList a Fs i ρ w r k->xs.map ρ=args)
  (h:∀w,Below B W w->Calls Tryz.prog f args w fun e w'=>∃u,e=.returned u/\OwnS w' w.heap.size u m/\Below w.heap.size w w'):OpOk Tryz.prog Q ops a apps (RowI B W R0 Ls) RowM (nth Fs) i o:=
 OpOk.plain hi hg fun ρ u L w r k h1 h2 h3 h4 h5 h6 h7 h8 h9 h10 h11 h12 K hK=>zcpZ ho hf hname hb (h5 f) (ha ρ w r k (Ev.mk' h1 h2 h3 h4 h5 h6 h7 h8 h9 h10)) ((h w h12.1).mono fun e w' ⟨v,he,ho5,hb5⟩=>
  ⟨v,he,hK.o _ _ _ (RowM.of_below hb5) (RowI.below h12 hB hb5) (zboZ hF (Str.of_own ho5 fun g hg=>(h12.2.1.lt g hg).2))⟩)
theorem OpOk.pcall {v:Value} {fn:Func} {c:Code} {f:FuncId} {xs:Array Operand} {ats:Array TypeId} {args:Array Value} (hi:apps.contains i=false) (hg:o.guard=none) (hF:nth Fs i=IsF v) (hB:B<=W.heap.size)
  (ho:o.op=.call { callee:=.value (.func f),args:=xs,argTypes:=ats }) (hf : Tryz.prog.funcs[f]? =some fn) (hname:(fn.name== "runtime.NumGoroutine")=false) (hb:fn.body=some c)
  (ha:∀(ρ:Operand->Value) (w:World) (r:Value) (k:Nat),Ev ops.toList a Fs i ρ w r k->xs.map ρ=args)
  (h:∀w,Below B W w->Calls Tryz.prog f args w fun e w'=>e=.returned v/\Below w.heap.size w w'):OpOk Tryz.prog Q ops a apps (RowI B W R0 Ls) RowM (nth Fs) i o:=
 OpOk.plain hi hg fun ρ u L w r k h1 h2 h3 h4 h5 h6 h7 h8 h9 h10 h11 h12 K hK=>zcpZ ho hf hname hb (h5 f) (ha ρ w r k (Ev.mk' h1 h2 h3 h4 h5 h6 h7 h8 h9 h10)) ((h w h12.1).mono fun e w' ⟨he,hb5⟩=>
  ⟨v,he,hK.o _ _ _ (RowM.of_below hb5) (RowI.below h12 hB hb5) (zboZ hF rfl)⟩)
theorem OpOk.hcall {l:List Nat} {m:List Lx.Bytes} {fn:Func} {c:Code} {f:FuncId} {xs:Array Operand} {ats:Array TypeId} {args:Array Value} (hi:apps=i::l) (hg:o.guard=none) (hF:nth Fs i=AppF 0) (hB:B<=W.heap.size) (hL:Ls 1=m)
  (ho:o.op=.call { callee:=.value (.func f),args:=xs,argTypes:=ats }) (hf : Tryz.prog.funcs[f]? =some fn) (hname:(fn.name== "runtime.NumGoroutine")=false) (hb:fn.body=some c)
  (ha:∀(ρ:Operand->Value) (w:World) (r:Value) (k:Nat),Ev ops.toList a Fs i ρ w r k->xs.map ρ=args)
  (h:∀w,Below B W w->Calls Tryz.prog f args w fun e w'=>∃u,e=.returned u/\OwnS w' w.heap.size u m/\Below w.heap.size w w'):OpOk Tryz.prog Q ops a apps (RowI B W R0 Ls) RowM (nth Fs) i o:=by
 refine OpOk.head hi hg hF fun ρ u L w r k h1 h2 h3 h4 h5 h6 h7 h8 h9 h10 h12 K hK=>zcpZ ho hf hname hb (h5 f) (ha ρ w r k (Ev.mk' h1 h2 h3 h4 h5 h6 h7 h8 h9 h10)) ((h w h12.1).mono fun e w' ⟨v,he,ho5,hb5⟩=>⟨v,he,?_⟩);exact hK.o _ _ _ (RowM.first hb5 ho5) (RowI.first h12.1 hB hb5 ho5 hL) (zboZ hF AppF.first)
theorem OpOk.hone {l:List Nat} {m:List Lx.Bytes} (hi:apps=i::l) (hg:o.guard=none) (hF:nth Fs i=AppF 0) (hB:B<=W.heap.size) (hL:Ls 1=m) (hm:m.length<=maxLen)
  (h:∀(ρ:Operand->Value) (w:World) (r:Value) (k:Nat),Ev ops.toList a Fs i ρ w r k->RowI B W R0 Ls 0 w r->∀K:Value->World->Prop,(∀cs:Array Value,cs.toList=strsV m->K (.slice (some ⟨w.heap.size,0,none⟩) m.length m.length) (w.alloc (.cells cs 9)))->opWp Tryz.prog o ρ w K):OpOk Tryz.prog Q ops a apps (RowI B W R0 Ls) RowM (nth Fs) i o:=by
 refine OpOk.head hi hg hF fun ρ u L w r k h1 h2 h3 h4 h5 h6 h7 h8 h9 h10 h12 K hK=>h ρ w r k (Ev.mk' h1 h2 h3 h4 h5 h6 h7 h8 h9 h10) h12 K fun cs hcs=>?_;have H0:OwnS (w.alloc (.cells cs 9)) w.heap.size (.slice (some ⟨w.heap.size,0,none⟩) m.length m.length) m:=OwnS.arr (ydZ w _) hcs hm (ybZ _);exact hK.o _ _ _ (RowM.first ((yqZ _ _).alloc (ybZ _) _) H0) (RowI.first h12.1 hB ((yqZ _ _).alloc (ybZ _) _) H0 hL) (zboZ hF AppF.first)
theorem OpOk.rowv {m:List Lx.Bytes} {d:Nat} {v:Value} (hi:apps.contains i=false) (hg:o.guard=none) (hF:nth Fs i=StrF m) (ho:o.op=.move (.tmp d)) (hv:StrRow W v m) (he:W.heap.size=B)
  (h:∀(ρ:Operand->Value) (w:World) (r:Value) (k:Nat),Ev ops.toList a Fs i ρ w r k->ρ (.tmp d)=v):OpOk Tryz.prog Q ops a apps (RowI B W R0 Ls) RowM (nth Fs) i o:=
 OpOk.plain hi hg fun ρ u L w r k h1 h2 h3 h4 h5 h6 h7 h8 h9 h10 h11 h12 K hK=>zdgZ (.tmp d) ho (h ρ w r k (Ev.mk' h1 h2 h3 h4 h5 h6 h7 h8 h9 h10)) (hK.o _ _ _ RowM.refl h12 (zboZ hF (Str.older hv he h12.1 fun g hg=>(h12.2.1.lt g hg).1)))
theorem OpOk.app0 {m:List Lx.Bytes} {s x q q0:Nat} {l:List Nat} (hi:apps=i::l) (hg:o.guard=none)
  (ho:o.op=.call { callee:=.builtin .append,args:=#[.tmp s,.tmp x],argTypes:=#[22, 22] }) (hF:nth Fs i=AppF 0) {l0 l1:List Lx.Bytes} (h0:Ls 0=l0) (h1:Ls 1=l1) (hLs:l1=l0++m)
  (hm:0<m.length) (hn:l0.length+m.length<=100000000) (hB:B<=W.heap.size) (hq0:nth Fs q0=IsF R0) (hr0:reads ops.toList i s q0=true) (hq:nth Fs q=StrF m) (hr:reads ops.toList i x q=true):OpOk Tryz.prog Q ops a apps (RowI B W R0 Ls) RowM (nth Fs) i o:=by
 refine OpOk.app (j:=0) (m:=m) (.tmp s) (.tmp x) (by rw[hi];rfl) hg ho hF (by rw[h1,h0,hLs]) hm (by rw[h0];exact hn) hB fun ρ u L w r k hs hs0 hL hC hfc hk hI=>?_;obtain rfl:k=0:=by omega
 unfold reads at hr hr0;simp only[ygZ,ytZ]at hr hr0;have e1:=hfc q0 (hL q0 hr0.2);have e2:=hfc q (hL q hr.2);rw[hq0]at e1;rw[hq]at e2;exact⟨⟨rfl,(hs s q0 hr0.1).trans (Eq.trans e1 (hI.2.2 rfl).symm)⟩,_,hs x q hr.1,e2⟩
theorem OpOk.appN {j:Nat} {m:List Lx.Bytes} {s x q p:Nat} (hi:apps[j+1]? =some i) (hg:o.guard=none)
  (ho:o.op=.call { callee:=.builtin .append,args:=#[.tmp s,.tmp x],argTypes:=#[22, 22] }) (hF:nth Fs i=AppF (j+1)) {l0 l1:List Lx.Bytes} (h0:Ls (j+1)=l0) (h1:Ls (j+2)=l1) (hLs:l1=l0++m)
  (hm:0<m.length) (hn:l0.length+m.length<=100000000) (hB:B<=W.heap.size) (hp:nth Fs p=AppF j) (hrp:reads ops.toList i s p=true) (hq:nth Fs q=StrF m) (hr:reads ops.toList i x q=true):OpOk Tryz.prog Q ops a apps (RowI B W R0 Ls) RowM (nth Fs) i o:=by
 refine OpOk.app (j:=j+1) (m:=m) (.tmp s) (.tmp x) hi hg ho hF (by rw[h1,h0,hLs]) hm (by rw[h0];exact hn) hB fun ρ u L w r k hs hs0 hL hC hfc hk hI=>?_;unfold reads at hr hrp;simp only[ygZ,ytZ]at hr hrp;have e1:=hfc p (hL p hrp.2);have e2:=hfc q (hL q hr.2);rw[hp]at e1;rw[hq]at e2;obtain rfl:k=j+1:=Nat.le_antisymm hk e1.1;exact⟨⟨rfl,(hs s p hrp.1).trans (e1.2 rfl).symm⟩,_,hs x q hr.1,e2⟩
end
def StI (S:World->Prop):Nat->World->Value->Prop:=fun _ w _=>S w
def StM:World->Value->Nat->World->Value->Nat->Prop:=fun w _ _ w' _ _=>Below w.heap.size w w'
def WF (p:Value->World->Prop):Value->World->Value->Nat->Prop:=fun x w _ _=>p x w
theorem WF.stays {p:Value->World->Prop} (h:∀x w w',Below w.heap.size w w'->p x w->p x w'):Stays StM (WF p):=fun x w r k w' r' k' hm hh=>h x w w' hm hh
theorem WF.row {l:List Lx.Bytes} : Stays StM (WF fun x w=>StrRow w x l):=WF.stays fun _ _ _ h hh=>hh.below h
theorem WF.tys {l:List Sx.Ty} : Stays StM (WF fun x w=>TyRow w x l):=WF.stays fun _ _ _ h hh=>hh.below h
def gv (p:Bool) (v:Value):Value:=if p then v else undef
theorem zbaZ {p:Bool} {v:Value} (h:p=true):gv p v=v:=by unfold gv;rw[if_pos h]
theorem znqZ {p c b:Bool} : gv p (.bool c)=.bool b↔(p&&(c==b))=true:=by
 unfold gv
 cases p with
 | false=>simp[undef]
 | true=>simp
theorem StM.rf (w:World) (r:Value) (k:Nat):StM w r k w r k:=yqZ _ _
section
variable {P:Program} {ops:Array Oper} {Q:Exit->Act->World->Prop} {a:Act} {apps:List Nat} {I:Nat->World->Value->Prop} {M:World->Value->Nat->World->Value->Nat->Prop} {Fs:List (Value->World->Value->Nat->Prop)} {i:Nat} {o:Oper}
theorem OpOk.gany {g:Nat} {b c p:Bool} {v:Value} (hi:apps.contains i=false) (hg:o.guard=some (g,b)) (hgs:(slotAt ops.toList g).isSome=true) (he:edge ops.toList i g=true) (hFg:nth Fs g=IsF (gv p (.bool c))) (hF:nth Fs i=IsF (gv (p&&(c==b)) v)) (hM:∀w r k,M w r k w r k)
  (h:(p&&(c==b))=true->∀(ρ:Operand->Value) (u:Nat->Value) (L:Nat->Prop) (w:World) (r:Value) (k:Nat),Ev ops.toList a Fs i ρ w r k->I k w r->
   ∀K:Value->World->Prop,Hid (∀w' r',M w r k w' r' k->I k w' r'->K v w')->opWp P o ρ w K):OpOk P Q ops a apps I M (nth Fs) i o:=by
 intro ρ u L w r k h1 h2 h3 h4 h5 h6 h7 h8 h9 H1 H2 H0 K hK;rw[zhrZ hi]at hK;unfold guarded;rw[hg];have hc:u g=gv p (.bool c):=by have:=h9 g (h6 g he);rw[hFg]at this;exact this
 refine⟨hgs,fun e=>?_,fun e=>?_⟩
 ·rw[hc,znqZ]at e;refine h e ρ u L w r k (Ev.mk' h1 h2 h3 h4 h5 h6 h7 h8 h9 H1) H0 K (zh fun w' r' hm hI'=>hK.o _ _ r' hm hI' ?_);rw[hF];exact(zbaZ e).symm
 ·refine hK.o _ _ r (hM w r k) H0 ?_;rw[hF];unfold IsF gv;rw[if_neg];intro h;exact e (by rw[hc,znqZ];exact h)
theorem OpOk.gval {g:Nat} {b c p:Bool} {v:Value} (hi:apps.contains i=false) (hg:o.guard=some (g,b)) (hgs:(slotAt ops.toList g).isSome=true) (he:edge ops.toList i g=true) (hFg:nth Fs g=IsF (gv p (.bool c))) (hF:nth Fs i=IsF (gv (p&&(c==b)) v)) (hM:∀w r k,M w r k w r k)
  (h:(p&&(c==b))=true->∀(ρ:Operand->Value) (w:World) (r:Value) (k:Nat),Ev ops.toList a Fs i ρ w r k->I k w r->∀K:Value->World->Prop,K v w->opWp P o ρ w K):OpOk P Q ops a apps I M (nth Fs) i o:=
 OpOk.gany hi hg hgs he hFg hF hM fun e ρ u L w r k E hI K hK=>h e ρ w r k E hI K (hK.o w r (hM w r k) hI)
end
section
variable {P:Program} {ops:Array Oper} {Q:Exit->Act->World->Prop} {a:Act} {S:World->Prop} {Fs:List (Value->World->Value->Nat->Prop)} {i:Nat} {o:Oper}
theorem OpOk.gcall {g:Nat} {b c p:Bool} {v:Value} {fn:Func} {cd:Code} {f:FuncId} {xs:Array Operand} {ats:Array TypeId} {args:Array Value} (hg:o.guard=some (g,b)) (hgs:(slotAt ops.toList g).isSome=true) (he:edge ops.toList i g=true) (hFg:nth Fs g=IsF (gv p (.bool c))) (hF:nth Fs i=IsF (gv (p&&(c==b)) v))
  (hgo:∀X X',S X->Below X.heap.size X X'->S X') (ho:o.op=.call { callee:=.value (.func f),args:=xs,argTypes:=ats }) (hf:P.funcs[f]? =some fn) (hname:(fn.name== "runtime.NumGoroutine")=false) (hb:fn.body=some cd)
  (ha:(p&&(c==b))=true->∀(ρ:Operand->Value) (w:World) (r:Value) (k:Nat),Ev ops.toList a Fs i ρ w r k->xs.map ρ=args)
  (h:(p&&(c==b))=true->∀w,S w->Calls P f args w fun e w'=>e=.returned v/\Below w.heap.size w w'):OpOk P Q ops a [] (StI S) StM (nth Fs) i o:=
 OpOk.gany rfl hg hgs he hFg hF StM.rf fun e ρ u L w r k E hI K hK=>zcpZ ho hf hname hb (E.f f) (ha e ρ w r k E) ((h e w hI).mono fun x w' ⟨h1,h2⟩=>⟨v,h1,hK.o w' r h2 (hgo w w' hI h2)⟩)
end
theorem zgnZ {P:Program} {o:Oper} {ρ:Operand->Value} {w:World} {K:Value->World->Prop} {c x:Operand} {b e:Bool} (ho:o.op=.pick c x (.const (.bool false))) (hcst:∀v,ρ (.const v)=v) (hc:ρ c=.bool b) (hx:b=true->ρ x=.bool e) (h:K (.bool (b&&e)) w):opWp P o ρ w K:=by
 unfold opWp execOp;rw[ho];simp only[hc,asBool,hcst]
 cases b with
 | false=>exact h
 | true=>simp only[Sem.run_bind,Sem.run_pure,Result.andThen_ok,ycbZ,hx rfl,upon2];exact h
theorem zhiZ {P:Program} {o:Oper} {ρ:Operand->Value} {w:World} {K:Value->World->Prop} {c y:Operand} {b e:Bool} (ho:o.op=.pick c (.const (.bool true)) y) (hcst:∀v,ρ (.const v)=v) (hc:ρ c=.bool b) (hy:b=false->ρ y=.bool e) (h:K (.bool (b||e)) w):opWp P o ρ w K:=by
 unfold opWp execOp;rw[ho];simp only[hc,asBool,hcst]
 cases b with
 | true=>exact h
 | false=>simp only[Sem.run_bind,Sem.run_pure,Result.andThen_ok,yXZ,hy rfl,upon2];exact h
end Go.Proofs.YtdncljdfmdgdaaaGreatDoor
namespace Go.Proofs.YtdncljdfmdgdaaaGreatDoor
def Nths (Fs:List (Value->World->Value->Nat->Prop)):Nat->List (Value->World->Value->Nat->Prop)->Prop
 | _,[]=>True
 | i,f::l=>nth Fs i=f/\Nths Fs (i+1) l
theorem znrZ {Fs:List (Value->World->Value->Nat->Prop)} : ∀(l m:List (Value->World->Value->Nat->Prop)),m++l=Fs->Nths Fs m.length l
 | [],m,h=>trivial
 | f::l,m,h=>by
  refine⟨?_,?_⟩
  ·rw[<-h];unfold nth;simp
  ·have:=znrZ l (m++[f]) (by simpa using h);simpa using this
theorem zcgZ {l Fs:List (Value->World->Value->Nat->Prop)} (h:l=Fs):Nths Fs 0 l:=znrZ l [] h
end Go.Proofs.YtdncljdfmdgdaaaGreatDoor
namespace Go.Proofs.YtdncljdfmdgdaaaGreatDoor
open Go.RowKit Go.Shelf
attribute [local go_sem] opWp zoZ zvZ zpZ
theorem zxkZ {a b:Bool} (h:(a&&b)=true):a=true:=(ygZ _ _▸h).1
def Rd (ops:List Oper) (a:Act) (Fs:List (Value->World->Value->Nat->Prop)) (i:Nat) (p:Bool) (d:Nat) (v:Value):Prop:=∀ρ w r k,Ev ops a Fs i ρ w r k->p=true->ρ (.tmp d)=v
section
variable {ops:List Oper} {a:Act} {Fs:List (Value->World->Value->Nat->Prop)} {i q:Nat} {p x:Bool} {v:Value}
theorem Rd.f (d:Nat) (hF:nth Fs q=IsF v) (h:reads ops i d q=true:=by kernel_rfl):Rd ops a Fs i p d v:=fun ρ w r k E _=>E.e d q h hF
theorem Rd.g (d:Nat) (hF:nth Fs q=IsF (gv p v)) (h:reads ops i d q=true:=by kernel_rfl):Rd ops a Fs i p d v:=fun ρ w r k E hp=>(E.e d q h hF).trans (zbaZ hp)
theorem Rd.h (d:Nat) (hF:nth Fs q=IsF (gv p v)) (h:reads ops i d q=true:=by kernel_rfl):Rd ops a Fs i (p&&x) d v:=fun ρ w r k E hp=>(E.e d q h hF).trans (zbaZ (zxkZ hp))
theorem Rd.z (d q:Nat) (l:List Nat) (h:behind ops i d q l=true:=by kernel_rfl) (e:a.eval (.tmp d)=v:=by rfl):Rd ops a Fs i p d v:=fun ρ w r k E _=>(E.z d q l h).trans e
theorem Rd.n (d:Nat) (h:(slots ops).contains d=false:=by kernel_rfl) (e:a.eval (.tmp d)=v:=by rfl):Rd ops a Fs i p d v:=fun ρ w r k E _=>(E.n d h).trans e
end
theorem g0 {Fs:List (Value->World->Value->Nat->Prop)} {q:Nat} {v:Value} (h:nth Fs q=IsF v):nth Fs q=IsF (gv true v):=h
section
variable {P:Program} {ops:Array Oper} {Q:Exit->Act->World->Prop} {a:Act} {apps:List Nat} {I:Nat->World->Value->Prop} {M:World->Value->Nat->World->Value->Nat->Prop} {Fs:List (Value->World->Value->Nat->Prop)} {i:Nat} {o:Oper}
 {d e g:Nat} {u u1 v:Value} {b c p:Bool}
/-! ### without a guard -/
theorem OpOk.m (hF:nth Fs i=IsF v) (h:Rd ops.toList a Fs i true d v) (ho:o.op=.move (.tmp d):=by rfl) (hi:apps.contains i=false:=by rfl) (hg:o.guard=none:=by rfl) (hM:∀w r k,M w r k w r k:=by first | exact StM.rf | exact RowM.rf | exact PushM.rf):OpOk P Q ops a apps I M (nth Fs) i o:=
 OpOk.val hi hg hF hM fun ρ w r k E _ K hK=>zdgZ (.tmp d) ho (h ρ w r k E rfl) hK
theorem OpOk.s (hF:nth Fs i=IsF v) (h:Rd ops.toList a Fs i true d v) (ho:o.op=.assign (.tmp d):=by rfl) (hi:apps.contains i=false:=by rfl) (hg:o.guard=none:=by rfl) (hM:∀w r k,M w r k w r k:=by first | exact StM.rf | exact RowM.rf | exact PushM.rf):OpOk P Q ops a apps I M (nth Fs) i o:=
 OpOk.val hi hg hF hM fun ρ w r k E _ K hK=>zhhZ (.tmp d) ho (h ρ w r k E rfl) hK
theorem OpOk.v1 (hF:nth Fs i=IsF v) (h:Rd ops.toList a Fs i true d u)
  (k:∀(ρ:Operand->Value) (w:World) (K:Value->World->Prop),ρ (.tmp d)=u->(∀c,ρ (.const c)=c)->K v w->opWp P o ρ w K:=by intro ρ w K e1 e2 hK;go_simp;exact hK) (hi:apps.contains i=false:=by rfl) (hg:o.guard=none:=by rfl) (hM:∀w r k,M w r k w r k:=by first | exact StM.rf | exact RowM.rf | exact PushM.rf):OpOk P Q ops a apps I M (nth Fs) i o:=
 OpOk.val hi hg hF hM fun ρ w r n E _ K hK=>k ρ w K (h ρ w r n E rfl) E.c hK
theorem OpOk.v2 (hF:nth Fs i=IsF v) (h:Rd ops.toList a Fs i true d u) (h2:Rd ops.toList a Fs i true e u1)
  (k:∀(ρ:Operand->Value) (w:World) (K:Value->World->Prop),ρ (.tmp d)=u->ρ (.tmp e)=u1->K v w->opWp P o ρ w K:=by intro ρ w K e1 e2 hK;go_simp;exact hK) (hi:apps.contains i=false:=by rfl) (hg:o.guard=none:=by rfl) (hM:∀w r k,M w r k w r k:=by first | exact StM.rf | exact RowM.rf | exact PushM.rf):OpOk P Q ops a apps I M (nth Fs) i o:=
 OpOk.val hi hg hF hM fun ρ w r n E _ K hK=>k ρ w K (h ρ w r n E rfl) (h2 ρ w r n E rfl) hK
theorem OpOk.pA {b1 b2:Bool} (hF:nth Fs i=IsF (.bool (b1&&b2))) (h:Rd ops.toList a Fs i true d (.bool b1)) (h2:Rd ops.toList a Fs i (true&&(b1==true)) e (.bool b2)) (ho:o.op=.pick (.tmp d) (.tmp e) (.const (.bool false)):=by rfl) (hi:apps.contains i=false:=by rfl) (hg:o.guard=none:=by rfl) (hM:∀w r k,M w r k w r k:=by first | exact StM.rf | exact RowM.rf | exact PushM.rf):OpOk P Q ops a apps I M (nth Fs) i o:=
 OpOk.val hi hg hF hM fun ρ w r n E _ K hK=>zgnZ ho E.c (h ρ w r n E rfl) (fun e=>h2 ρ w r n E (by rw[e];rfl)) hK
theorem OpOk.pO {b1 b2:Bool} (hF:nth Fs i=IsF (.bool (b1||b2))) (h:Rd ops.toList a Fs i true d (.bool b1)) (h2:Rd ops.toList a Fs i (true&&(b1==false)) e (.bool b2)) (ho:o.op=.pick (.tmp d) (.const (.bool true)) (.tmp e):=by rfl) (hi:apps.contains i=false:=by rfl) (hg:o.guard=none:=by rfl) (hM:∀w r k,M w r k w r k:=by first | exact StM.rf | exact RowM.rf | exact PushM.rf):OpOk P Q ops a apps I M (nth Fs) i o:=
 OpOk.val hi hg hF hM fun ρ w r n E _ K hK=>zhiZ ho E.c (h ρ w r n E rfl) (fun e=>h2 ρ w r n E (by rw[e];rfl)) hK
/-! ### under a guard -/
theorem OpOk.gm (hG:nth Fs g=IsF (gv p (.bool c))) (hF:nth Fs i=IsF (gv (p&&(c==b)) v)) (h:Rd ops.toList a Fs i (p&&(c==b)) d v) (ho:o.op=.move (.tmp d):=by rfl) (hg:o.guard=some (g,b):=by rfl) (hi:apps.contains i=false:=by rfl)
  (hs:(slotAt ops.toList g).isSome=true:=by kernel_rfl) (he:edge ops.toList i g=true:=by kernel_rfl) (hM:∀w r k,M w r k w r k:=by first | exact StM.rf | exact RowM.rf | exact PushM.rf):OpOk P Q ops a apps I M (nth Fs) i o:=
 OpOk.gval hi hg hs he hG hF hM fun hp ρ w r k E _ K hK=>zdgZ (.tmp d) ho (h ρ w r k E hp) hK
theorem OpOk.gv1 (hG:nth Fs g=IsF (gv p (.bool c))) (hF:nth Fs i=IsF (gv (p&&(c==b)) v)) (h:Rd ops.toList a Fs i (p&&(c==b)) d u)
  (k:∀(ρ:Operand->Value) (w:World) (K:Value->World->Prop),ρ (.tmp d)=u->(∀c,ρ (.const c)=c)->K v w->opWp P o ρ w K:=by intro ρ w K e1 e2 hK;go_simp;exact hK) (hg:o.guard=some (g,b):=by rfl) (hi:apps.contains i=false:=by rfl)
  (hs:(slotAt ops.toList g).isSome=true:=by kernel_rfl) (he:edge ops.toList i g=true:=by kernel_rfl) (hM:∀w r k,M w r k w r k:=by first | exact StM.rf | exact RowM.rf | exact PushM.rf):OpOk P Q ops a apps I M (nth Fs) i o:=
 OpOk.gval hi hg hs he hG hF hM fun hp ρ w r n E _ K hK=>k ρ w K (h ρ w r n E hp) E.c hK
theorem OpOk.gv2 (hG:nth Fs g=IsF (gv p (.bool c))) (hF:nth Fs i=IsF (gv (p&&(c==b)) v)) (h:Rd ops.toList a Fs i (p&&(c==b)) d u) (h2:Rd ops.toList a Fs i (p&&(c==b)) e u1)
  (k:∀(ρ:Operand->Value) (w:World) (K:Value->World->Prop),ρ (.tmp d)=u->ρ (.tmp e)=u1->K v w->opWp P o ρ w K:=by intro ρ w K e1 e2 hK;go_simp;exact hK) (hg:o.guard=some (g,b):=by rfl) (hi:apps.contains i=false:=by rfl)
  (hs:(slotAt ops.toList g).isSome=true:=by kernel_rfl) (he:edge ops.toList i g=true:=by kernel_rfl) (hM:∀w r k,M w r k w r k:=by first | exact StM.rf | exact RowM.rf | exact PushM.rf):OpOk P Q ops a apps I M (nth Fs) i o:=
 OpOk.gval hi hg hs he hG hF hM fun hp ρ w r n E _ K hK=>k ρ w K (h ρ w r n E hp) (h2 ρ w r n E hp) hK
theorem OpOk.gpA {b1 b2:Bool} (hG:nth Fs g=IsF (gv p (.bool c))) (hF:nth Fs i=IsF (gv (p&&(c==b)) (.bool (b1&&b2)))) (h:Rd ops.toList a Fs i (p&&(c==b)) d (.bool b1)) (h2:Rd ops.toList a Fs i ((p&&(c==b))&&(b1==true)) e (.bool b2))
  (ho:o.op=.pick (.tmp d) (.tmp e) (.const (.bool false)):=by rfl) (hg:o.guard=some (g,b):=by rfl) (hi:apps.contains i=false:=by rfl) (hs:(slotAt ops.toList g).isSome=true:=by kernel_rfl) (he:edge ops.toList i g=true:=by kernel_rfl) (hM:∀w r k,M w r k w r k:=by first | exact StM.rf | exact RowM.rf | exact PushM.rf):OpOk P Q ops a apps I M (nth Fs) i o:=
 OpOk.gval hi hg hs he hG hF hM fun hp ρ w r n E _ K hK=>zgnZ ho E.c (h ρ w r n E hp) (fun e=>h2 ρ w r n E (by rw[hp,e];rfl)) hK
theorem OpOk.gpO {b1 b2:Bool} (hG:nth Fs g=IsF (gv p (.bool c))) (hF:nth Fs i=IsF (gv (p&&(c==b)) (.bool (b1||b2)))) (h:Rd ops.toList a Fs i (p&&(c==b)) d (.bool b1)) (h2:Rd ops.toList a Fs i ((p&&(c==b))&&(b1==false)) e (.bool b2))
  (ho:o.op=.pick (.tmp d) (.const (.bool true)) (.tmp e):=by rfl) (hg:o.guard=some (g,b):=by rfl) (hi:apps.contains i=false:=by rfl) (hs:(slotAt ops.toList g).isSome=true:=by kernel_rfl) (he:edge ops.toList i g=true:=by kernel_rfl) (hM:∀w r k,M w r k w r k:=by first | exact StM.rf | exact RowM.rf | exact PushM.rf):OpOk P Q ops a apps I M (nth Fs) i o:=
 OpOk.gval hi hg hs he hG hF hM fun hp ρ w r n E _ K hK=>zhiZ ho E.c (h ρ w r n E hp) (fun e=>h2 ρ w r n E (by rw[hp,e];rfl)) hK
/-! ### a box's cells -/
def Fl (P:Program) (T:TypeId):Prop:=∀ {o:Oper} {ρ:Operand->Value} {w:World} {K:Value->World->Prop} {x:Operand} {i L:Nat},o.op=.fieldAddr T x i->i<=6->ρ x=.pointer (some ⟨L,0,none⟩)->L<w.heap.size->K (.pointer (some ⟨L,i,none⟩)) w->opWp P o ρ w K
def Ld (P:Program) (l:List TypeId):Prop:=∀ {o:Oper} {ρ:Operand->Value} {w:World} {K:Value->World->Prop} {x:Operand} {T:TypeId} {a:Addr} {v:Value},o.op=.load T x->l.contains T=true->ρ x=.pointer (some a)->w.cell? a=some v->K v w->opWp P o ρ w K
variable {T L j:Nat} {cs:Array Value} {l:List TypeId}
structure Bx (P:Program) (I:Nat->World->Value->Prop) (T:TypeId) (l:List TypeId) (L:Nat) (cs:Array Value):Prop where
 fl:Fl P T
 ld:Ld P l
 bx:∀k w r,I k w r->w.heap[L]? =some (.cells cs T (0,0))
theorem OpOk.fl (H:Bx P I T l L cs) (hF:nth Fs i=IsF (.pointer (some ⟨L,j,none⟩))) (h:Rd ops.toList a Fs i true d (.pointer (some ⟨L,0,none⟩)))
  (ho:o.op=.fieldAddr T (.tmp d) j:=by rfl) (hj:decide (j<=6)=true:=by rfl) (hi:apps.contains i=false:=by rfl) (hg:o.guard=none:=by rfl) (hM:∀w r k,M w r k w r k:=by first | exact StM.rf | exact RowM.rf | exact PushM.rf):OpOk P Q ops a apps I M (nth Fs) i o:=
 OpOk.val hi hg hF hM fun ρ w r k E hI K hK=>H.fl ho (yBZ hj) (h ρ w r k E rfl) (zaZ (H.bx k w r hI)) hK
theorem OpOk.ld {T2:TypeId} (H:Bx P I T l L cs) (hF:nth Fs i=IsF v) (h:Rd ops.toList a Fs i true d (.pointer (some ⟨L,j,none⟩)))
  (ho:o.op=.load T2 (.tmp d):=by rfl) (hT:l.contains T2=true:=by rfl) (hc:cs[j]? =some v:=by rfl) (hi:apps.contains i=false:=by rfl) (hg:o.guard=none:=by rfl) (hM:∀w r k,M w r k w r k:=by first | exact StM.rf | exact RowM.rf | exact PushM.rf):OpOk P Q ops a apps I M (nth Fs) i o:=
 OpOk.val hi hg hF hM fun ρ w r k E hI K hK=>H.ld ho hT (h ρ w r k E rfl) ((zdZ (H.bx k w r hI) j).trans hc) hK
theorem OpOk.gfl (H:Bx P I T l L cs) (hG:nth Fs g=IsF (gv p (.bool c))) (hF:nth Fs i=IsF (gv (p&&(c==b)) (.pointer (some ⟨L,j,none⟩)))) (h:Rd ops.toList a Fs i (p&&(c==b)) d (.pointer (some ⟨L,0,none⟩)))
  (ho:o.op=.fieldAddr T (.tmp d) j:=by rfl) (hj:decide (j<=6)=true:=by rfl) (hg:o.guard=some (g,b):=by rfl) (hi:apps.contains i=false:=by rfl) (hs:(slotAt ops.toList g).isSome=true:=by kernel_rfl) (he:edge ops.toList i g=true:=by kernel_rfl) (hM:∀w r k,M w r k w r k:=by first | exact StM.rf | exact RowM.rf | exact PushM.rf):OpOk P Q ops a apps I M (nth Fs) i o:=
 OpOk.gval hi hg hs he hG hF hM fun hp ρ w r k E hI K hK=>H.fl ho (yBZ hj) (h ρ w r k E hp) (zaZ (H.bx k w r hI)) hK
theorem OpOk.gld {T2:TypeId} (H:Bx P I T l L cs) (hG:nth Fs g=IsF (gv p (.bool c))) (hF:nth Fs i=IsF (gv (p&&(c==b)) v)) (h:Rd ops.toList a Fs i (p&&(c==b)) d (.pointer (some ⟨L,j,none⟩)))
  (ho:o.op=.load T2 (.tmp d):=by rfl) (hT:l.contains T2=true:=by rfl) (hc:cs[j]? =some v:=by rfl) (hg:o.guard=some (g,b):=by rfl) (hi:apps.contains i=false:=by rfl) (hs:(slotAt ops.toList g).isSome=true:=by kernel_rfl) (he:edge ops.toList i g=true:=by kernel_rfl) (hM:∀w r k,M w r k w r k:=by first | exact StM.rf | exact RowM.rf | exact PushM.rf):OpOk P Q ops a apps I M (nth Fs) i o:=
 OpOk.gval hi hg hs he hG hF hM fun hp ρ w r k E hI K hK=>H.ld ho hT (h ρ w r k E hp) ((zdZ (H.bx k w r hI) j).trans hc) hK
end
theorem flX:Fl Tryz.prog 39 :=by
 intro o ρ w K x i L ho hi hx hl h
 cases o with
 | mk dst op type pos after guard=>subst ho;have hk:i=0\/i=1\/i=2\/i=3\/i=4\/i=5\/i=6:=(by omega);rcases hk with rfl | rfl | rfl | rfl | rfl | rfl | rfl <;> go_simp <;> exact h
theorem flS:Fl Tryz.prog 69 :=by
 intro o ρ w K x i L ho hi hx hl h
 cases o with
 | mk dst op type pos after guard=>subst ho;have hk:i=0\/i=1\/i=2\/i=3\/i=4\/i=5\/i=6:=(by omega);rcases hk with rfl | rfl | rfl | rfl | rfl | rfl | rfl <;> go_simp <;> exact h
def ldT:List TypeId:=[3, 9, 24, 22, 37, 60, 23]
theorem ldA:Ld Tryz.prog ldT:=by
 intro o ρ w K x T a v ho hT hx hl h
 cases o with
 | mk dst op type pos after guard=>subst ho;unfold ldT at hT;simp only[List.contains_cons,List.contains_nil,yKZ,ytZ,Bool.false_eq_true,yjbZ]at hT;rcases hT with rfl | rfl | rfl | rfl | rfl | rfl | rfl <;> go_simp <;> exact h
/-! ### the stages of the row in hand -/
def stages (l:List Lx.Bytes):List (List Lx.Bytes)->List (List Lx.Bytes)
 | []=>[l]
 | m::ms=>l::stages (l++m) ms
def Lths (f:Nat->List Lx.Bytes) (k:Nat) (l:List Lx.Bytes):List (List Lx.Bytes)->Prop
 | []=>f k=l/\True
 | m::ms=>f k=l/\Lths f (k+1) (l++m) ms
def tot (n:Nat):List (List Lx.Bytes)->Nat
 | []=>n
 | m::ms=>tot (n+m.length) ms
theorem zqpZ:∀(ms:List (List Lx.Bytes)) (n:Nat),n<=tot n ms
 | [],n=>ybZ _
 | m::ms,n=>ymZ (Nat.le_add_right _ _) (zqpZ ms (n+m.length))
theorem zfgZ:∀(ms:List (List Lx.Bytes)) (l:List Lx.Bytes) (k:Nat),((stages l ms).getD k []).length<=tot l.length ms
 | [],l,0=>ybZ _
 | [],l,k+1=>yxZ _
 | m::ms,l,0=>zqpZ (m::ms) l.length
 | m::ms,l,k+1=>by have:=zfgZ ms (l++m) k;rw[ycZ]at this;exact this
theorem zjiZ:∀(ms:List (List Lx.Bytes)) (l:List Lx.Bytes) (f:Nat->List Lx.Bytes) (k:Nat),(∀j,f (k+j)=(stages l ms).getD j [])->Lths f k l ms
 | [],l,f,k,h=>⟨h 0,trivial⟩
 | m::ms,l,f,k,h=>⟨h 0,zjiZ ms (l++m) f (k+1) fun j=>by rw[Nat.add_assoc,Nat.add_comm 1 j];exact h (j+1)⟩
theorem zbdZ (l:List Lx.Bytes) (ms:List (List Lx.Bytes)) (h:tot l.length ms<=100000000):∃f:Nat->List Lx.Bytes,Lths f 0 l ms/\∀k,(f k).length<=100000000:=
 ⟨fun k=>(stages l ms).getD k [],zjiZ ms l _ 0 fun j=>by rw[yGZ],fun k=>ymZ (zfgZ ms l k) h⟩
theorem zbkZ (l:List Lx.Bytes) (ms:List (List Lx.Bytes)) (h:tot l.length ms<=100000000):∃f:Nat->List Lx.Bytes,(f 0=[]/\Lths f 1 l ms)/\∀k,(f k).length<=100000000:=
 ⟨fun k=>([]::stages l ms).getD k [],⟨rfl,zjiZ ms l _ 1 fun j=>by rw[Nat.add_comm];rfl⟩,fun k=>by
  cases k with
  | zero=>exact yxZ _
  | succ k=>exact ymZ (zfgZ ms l k) h⟩
theorem zrZ (l:List (Value->World->Value->Nat->Prop)) (hs:AllStay RowM l:=by repeat' first | exact .nil | refine .cons (by first | exact IsF.stays | exact AppF.stays | exact StrF.stays) ?_):∃F,Nths F 0 l/\AllStay RowM F:=⟨l,zcgZ rfl,hs⟩
theorem RowI.own {B:Nat} {W w:World} {R0 r:Value} {Ls:Nat->List Lx.Bytes} {k:Nat} {l:List Lx.Bytes} (h:RowI B W R0 Ls k w r) (hl:Ls k=l):OwnS w B r l:=hl▸h.2.1
theorem RowI.mk0 {B:Nat} {W w:World} {R0:Value} {Ls:Nat->List Lx.Bytes} {l:List Lx.Bytes} (hb:Below B W w) (ho:OwnS w B R0 l) (hl:Ls 0=l):RowI B W R0 Ls 0 w R0:=⟨hb,hl.symm▸ho,fun _=>rfl⟩
section
variable {ops:Array Oper} {Q:Exit->Act->World->Prop} {a:Act} {apps:List Nat} {Fs:List (Value->World->Value->Nat->Prop)} {i:Nat} {o:Oper} {B:Nat} {W:World} {R0:Value} {Ls:Nat->List Lx.Bytes} {d q:Nat} {m:List Lx.Bytes} {u:Value}
theorem OpOk.aa {j:Nat} (hF:nth Fs i=AppF j) (hq:nth Fs q=AppF j) (d:Nat) (hr:reads ops.toList i d q=true:=by kernel_rfl) (ho:o.op=.assign (.tmp d):=by rfl) (hi:apps.contains i=false:=by rfl) (hg:o.guard=none:=by rfl):OpOk Tryz.prog Q ops a apps (RowI B W R0 Ls) RowM (nth Fs) i o:=OpOk.asg hi hg hF hq ho hr
theorem OpOk.o0 (hB:B<=W.heap.size) (hF:nth Fs i=StrF m)
  (h:∀(ρ:Operand->Value) (w:World) (K:Value->World->Prop),(∀v,ρ (.const v)=v)->(∀cs:Array Value,cs.toList=strsV m->K (.slice (some ⟨w.heap.size,0,none⟩) m.length m.length) (w.alloc (.cells cs 9)))->opWp Tryz.prog o ρ w K:=by intro ρ w K c hK;go_simp;exact hK _ rfl)
  (hi:apps.contains i=false:=by rfl) (hg:o.guard=none:=by rfl):OpOk Tryz.prog Q ops a apps (RowI B W R0 Ls) RowM (nth Fs) i o:=OpOk.one hi hg hF hB fun ρ w r k E hI K hK=>h ρ w K E.c hK
theorem OpOk.o1 (hB:B<=W.heap.size) (hF:nth Fs i=StrF m) (hd:Rd ops.toList a Fs i true d u)
  (h:∀(ρ:Operand->Value) (w:World) (K:Value->World->Prop),ρ (.tmp d)=u->(∀v,ρ (.const v)=v)->(∀cs:Array Value,cs.toList=strsV m->K (.slice (some ⟨w.heap.size,0,none⟩) m.length m.length) (w.alloc (.cells cs 9)))->opWp Tryz.prog o ρ w K:=by intro ρ w K e c hK;go_simp;exact hK _ rfl)
  (hi:apps.contains i=false:=by rfl) (hg:o.guard=none:=by rfl):OpOk Tryz.prog Q ops a apps (RowI B W R0 Ls) RowM (nth Fs) i o:=OpOk.one hi hg hF hB fun ρ w r k E hI K hK=>h ρ w K (hd ρ w r k E rfl) E.c hK
theorem OpOk.h0 {l:List Nat} (hB:B<=W.heap.size) (hF:nth Fs i=AppF 0) (hL:Ls 1=m)
  (h:∀(ρ:Operand->Value) (w:World) (K:Value->World->Prop),(∀v,ρ (.const v)=v)->(∀cs:Array Value,cs.toList=strsV m->K (.slice (some ⟨w.heap.size,0,none⟩) m.length m.length) (w.alloc (.cells cs 9)))->opWp Tryz.prog o ρ w K:=by intro ρ w K c hK;go_simp;exact hK _ rfl)
  (hm:m.length<=maxLen:=by simp[maxLen]) (hg:o.guard=none:=by rfl):OpOk Tryz.prog Q ops a (i::l) (RowI B W R0 Ls) RowM (nth Fs) i o:=OpOk.hone rfl hg hF hB hL hm fun ρ w r k E hI K hK=>h ρ w K E.c hK
theorem OpOk.h1 {l:List Nat} (hB:B<=W.heap.size) (hF:nth Fs i=AppF 0) (hL:Ls 1=m) (hd:Rd ops.toList a Fs i true d u)
  (h:∀(ρ:Operand->Value) (w:World) (K:Value->World->Prop),ρ (.tmp d)=u->(∀v,ρ (.const v)=v)->(∀cs:Array Value,cs.toList=strsV m->K (.slice (some ⟨w.heap.size,0,none⟩) m.length m.length) (w.alloc (.cells cs 9)))->opWp Tryz.prog o ρ w K:=by intro ρ w K e c hK;go_simp;exact hK _ rfl)
  (hm:m.length<=maxLen:=by simp[maxLen]) (hg:o.guard=none:=by rfl):OpOk Tryz.prog Q ops a (i::l) (RowI B W R0 Ls) RowM (nth Fs) i o:=OpOk.hone rfl hg hF hB hL hm fun ρ w r k E hI K hK=>h ρ w K (hd ρ w r k E rfl) E.c hK
theorem OpOk.rv (hB:W.heap.size=B) (hF:nth Fs i=StrF m) (hv:StrRow W u m) (h:Rd ops.toList a Fs i true d u) (ho:o.op=.move (.tmp d):=by rfl) (hi:apps.contains i=false:=by rfl) (hg:o.guard=none:=by rfl):OpOk Tryz.prog Q ops a apps (RowI B W R0 Ls) RowM (nth Fs) i o:=
 OpOk.rowv hi hg hF ho hv hB fun ρ w r k E=>h ρ w r k E rfl
theorem OpOk.N (s x:Nat) {j p:Nat} {l0 l1:List Lx.Bytes} (hB:B<=W.heap.size) (hn:∀k,(Ls k).length<=100000000) (hF:nth Fs i=AppF (j+1)) (h0:Ls (j+1)=l0) (h1:Ls (j+2)=l1) (hp:nth Fs p=AppF j) (hq:nth Fs q=StrF m)
  (hm:0<m.length:=by simp) (hLs:l1=l0++m:=by rfl) (ho:o.op=.call { callee:=.builtin .append,args:=#[.tmp s,.tmp x],argTypes:=#[22, 22] } :=by rfl) (hi:apps[j+1]? =some i:=by rfl) (hg:o.guard=none:=by rfl)
  (hrp:reads ops.toList i s p=true:=by kernel_rfl) (hr:reads ops.toList i x q=true:=by kernel_rfl):OpOk Tryz.prog Q ops a apps (RowI B W R0 Ls) RowM (nth Fs) i o:=
 OpOk.appN hi hg ho hF h0 h1 hLs hm (by have:=hn (j+2);rw[h1,hLs,ycZ]at this;exact this) hB hp hrp hq hr
theorem OpOk.N0 (s x:Nat) {p:Nat} {l:List Nat} {l0 l1:List Lx.Bytes} (hB:B<=W.heap.size) (hn:∀k,(Ls k).length<=100000000) (hF:nth Fs i=AppF 0) (h0:Ls 0=l0) (h1:Ls 1=l1) (hp:nth Fs p=IsF R0) (hq:nth Fs q=StrF m)
  (hm:0<m.length:=by simp) (hLs:l1=l0++m:=by rfl) (ho:o.op=.call { callee:=.builtin .append,args:=#[.tmp s,.tmp x],argTypes:=#[22, 22] } :=by rfl) (hg:o.guard=none:=by rfl)
  (hrp:reads ops.toList i s p=true:=by kernel_rfl) (hr:reads ops.toList i x q=true:=by kernel_rfl):OpOk Tryz.prog Q ops a (i::l) (RowI B W R0 Ls) RowM (nth Fs) i o:=
 OpOk.app0 rfl hg ho hF h0 h1 hLs hm (by have:=hn 1;rw[h1,hLs,ycZ]at this;exact this) hB hp hrp hq hr
theorem OpOk.C {fn:Func} {c:Code} {f:FuncId} {ats:Array TypeId} (hB:B<=W.heap.size) (hF:nth Fs i=StrF m) (hf : Tryz.prog.funcs[f]? =some fn) (hd:Rd ops.toList a Fs i true d u)
  (h:∀w,Below B W w->Calls Tryz.prog f #[u] w fun e w'=>∃u,e=.returned u/\OwnS w' w.heap.size u m/\Below w.heap.size w w')
  (ho:o.op=.call { callee:=.value (.func f),args:=#[.tmp d],argTypes:=ats } :=by rfl) (hname:(fn.name== "runtime.NumGoroutine")=false:=by kernel_rfl) (hb:fn.body=some c:=by rfl) (hi:apps.contains i=false:=by rfl) (hg:o.guard=none:=by rfl):OpOk Tryz.prog Q ops a apps (RowI B W R0 Ls) RowM (nth Fs) i o:=
 OpOk.call hi hg hF hB ho hf hname hb (fun ρ w r k E=>by rw[yIZ,yPZ,yRZ,hd ρ w r k E rfl]) h
theorem OpOk.H {l:List Nat} {fn:Func} {c:Code} {f:FuncId} {ats:Array TypeId} (hB:B<=W.heap.size) (hF:nth Fs i=AppF 0) (hL:Ls 1=m) (hf : Tryz.prog.funcs[f]? =some fn) (hd:Rd ops.toList a Fs i true d u)
  (h:∀w,Below B W w->Calls Tryz.prog f #[u] w fun e w'=>∃u,e=.returned u/\OwnS w' w.heap.size u m/\Below w.heap.size w w')
  (ho:o.op=.call { callee:=.value (.func f),args:=#[.tmp d],argTypes:=ats } :=by rfl) (hname:(fn.name== "runtime.NumGoroutine")=false:=by kernel_rfl) (hb:fn.body=some c:=by rfl) (hg:o.guard=none:=by rfl):OpOk Tryz.prog Q ops a (i::l) (RowI B W R0 Ls) RowM (nth Fs) i o:=
 OpOk.hcall rfl hg hF hB hL ho hf hname hb (fun ρ w r k E=>by rw[yIZ,yPZ,yRZ,hd ρ w r k E rfl]) h
theorem zbbZ {id z j:Nat} {w:World} {l0 ln:List Lx.Bytes} (hF:AllStay RowM Fs) (hB0:Below B W w.drew) (hO0:OwnS w.drew B R0 l0) (h0:Ls 0=l0) (hn:Ls apps.length=ln) (hz:nth Fs z=AppF j)
  (hstep:OpsOk Tryz.prog Q ops a apps (RowI B W R0 Ls) RowM (nth Fs) 0 ops.toList) (hdone:∀(u:Nat->Value) (w':World) (r:Value),Below B W w'->OwnS w' B r ln->u z=r->Q .normal (fillAct u ops.toList 0 a) w')
  (hj:apps.length=j+1:=by rfl) (hzn:decide (z<ops.size)=true:=by kernel_rfl) (hm : Tryz.prog.follows .mixedOrders=true:=by kernel_rfl) (hb:backward ops=true:=by kernel_rfl) (hs:slotsOk ops.toList=true:=by kernel_rfl) (hr:slotsIn ops.toList a.tmps.size=true:=by kernel_rfl) (ha:appsOk apps ops.size=true:=by kernel_rfl) (hch:chained ops.toList apps=true:=by kernel_rfl) :
  (Code.region id ops true).wp Tryz.prog Q a w:=
 zbcZ hm apps _ RowM Fs R0 hb hs hr ha hch hF rfl (RowI.mk0 hB0 hO0 h0) hstep fun u w' r hI hf=>hdone u w' r hI.1 (hI.own hn) ((zbqZ hz (hf z (yBZ hzn))).2 hj).symm
theorem zbeZ {id z j:Nat} {w:World} {l0 ln:List Lx.Bytes} (hF:AllStay RowM Fs) (hB0:Below B W w) (hO0:OwnS w B R0 l0) (h0:Ls 0=l0) (hn:Ls apps.length=ln) (hz:nth Fs z=AppF j)
  (hstep:OpsOk Tryz.prog Q ops a apps (RowI B W R0 Ls) RowM (nth Fs) 0 ops.toList) (hdone:∀(u:Nat->Value) (w':World) (r:Value),Below B W w'->OwnS w' B r ln->u z=r->Q .normal (fillAct u ops.toList 0 a) w')
  (hj:apps.length=j+1:=by rfl) (hzn:decide (z<ops.size)=true:=by kernel_rfl) (hb:backward ops=true:=by kernel_rfl) (hs:slotsOk ops.toList=true:=by kernel_rfl) (hr:slotsIn ops.toList a.tmps.size=true:=by kernel_rfl) (ha:appsOk apps ops.size=true:=by kernel_rfl) (hch:chained ops.toList apps=true:=by kernel_rfl) :
  (Code.region id ops false).wp Tryz.prog Q a w:=
 zwZ apps _ RowM Fs R0 hb hs hr ha hch hF rfl (RowI.mk0 hB0 hO0 h0) hstep fun u w' r hI hf=>hdone u w' r hI.1 (hI.own hn) ((zbqZ hz (hf z (yBZ hzn))).2 hj).symm
end
structure BesideS (cs:Array Value) (L:Nat) (vx:Value) (m:List Lx.Bytes) (w:World) (r:Value):Prop where
 box:w.heap[L]? =some (.cells cs 69 (0,0))
 ne:r.ownBlock≠some L
 row:Str w vx m r
theorem BesideS.mv {cs:Array Value} {L:Nat} {vx:Value} {m:List Lx.Bytes} {w w':World} {r r':Value} (h:BesideS cs L vx m w r) (hm:Mv w r w' r'):BesideS cs L vx m w' r':=by
 have hl:=zaZ h.box;refine⟨(hm.1.block L hl fun e=>h.ne e.symm).trans h.box,fun e=>?_,Str.mv h.row hm⟩;rcases hm.2 L e with h1 | h1
 ·exact h.ne h1
 ·omega
def RowS (cs:Array Value) (L:Nat) (vx:Value) (m:List Lx.Bytes) (B:Nat) (W:World) (R0:Value) (Ls:Nat->List Lx.Bytes):Nat->World->Value->Prop:=fun k w r=>RowI B W R0 Ls k w r/\BesideS cs L vx m w r
section
variable {ops:Array Oper} {Q:Exit->Act->World->Prop} {a:Act} {apps:List Nat} {Fs:List (Value->World->Value->Nat->Prop)} {i:Nat} {o:Oper} {B:Nat} {W:World} {R0:Value} {Ls:Nat->List Lx.Bytes} {cs:Array Value} {L:Nat} {vx:Value} {m:List Lx.Bytes}
theorem OpOk.x (h:OpOk Tryz.prog Q ops a apps (RowI B W R0 Ls) RowM (nth Fs) i o):OpOk Tryz.prog Q ops a apps (RowS cs L vx m B W R0 Ls) RowM (nth Fs) i o:=by
 intro ρ u LL w r k h1 h2 h3 h4 h5 h6 h7 h8 h9 H1 H2 H0 K hK;exact h ρ u LL w r k h1 h2 h3 h4 h5 h6 h7 h8 h9 H1 H2 H0.1 K (zh fun x w' r' hm hi hf=>hK.o x w' r' hm ⟨hi,H0.2.mv hm.1⟩ hf)
theorem OpOk.rx {d:Nat} (hF:nth Fs i=StrF m) (h:Rd ops.toList a Fs i true d vx) (ho:o.op=.move (.tmp d):=by rfl) (hi:apps.contains i=false:=by rfl) (hg:o.guard=none:=by rfl):OpOk Tryz.prog Q ops a apps (RowS cs L vx m B W R0 Ls) RowM (nth Fs) i o:=
 OpOk.plain hi hg fun ρ u LL w r k h1 h2 h3 h4 h5 h6 h7 h8 h9 h10 h11 h12 K hK=>zdgZ (.tmp d) ho (h ρ w r k (Ev.mk' h1 h2 h3 h4 h5 h6 h7 h8 h9 h10) rfl) (hK.o _ _ _ RowM.refl h12 (zboZ hF h12.2.row))
theorem Bx.s:Bx Tryz.prog (RowS cs L vx m B W R0 Ls) 69 ldT L cs:=⟨flS,ldA,fun k w r h=>h.2.box⟩
theorem zfhZ {id z j:Nat} {w:World} {l0 ln:List Lx.Bytes} (hF:AllStay RowM Fs) (hB0:Below B W w.drew) (hO0:OwnS w.drew B R0 l0) (hS0:BesideS cs L vx m w.drew R0) (h0:Ls 0=l0) (hn:Ls apps.length=ln) (hz:nth Fs z=AppF j)
  (hstep:OpsOk Tryz.prog Q ops a apps (RowS cs L vx m B W R0 Ls) RowM (nth Fs) 0 ops.toList) (hdone:∀(u:Nat->Value) (w':World) (r:Value),BesideS cs L vx m w' r->Below B W w'->OwnS w' B r ln->u z=r->Q .normal (fillAct u ops.toList 0 a) w')
  (hj:apps.length=j+1:=by rfl) (hzn:decide (z<ops.size)=true:=by kernel_rfl) (hm : Tryz.prog.follows .mixedOrders=true:=by kernel_rfl) (hb:backward ops=true:=by kernel_rfl) (hs:slotsOk ops.toList=true:=by kernel_rfl) (hr:slotsIn ops.toList a.tmps.size=true:=by kernel_rfl) (ha:appsOk apps ops.size=true:=by kernel_rfl) (hch:chained ops.toList apps=true:=by kernel_rfl) :
  (Code.region id ops true).wp Tryz.prog Q a w:=
 zbcZ hm apps _ RowM Fs R0 hb hs hr ha hch hF rfl ⟨RowI.mk0 hB0 hO0 h0,hS0⟩ hstep fun u w' r hI hf=>hdone u w' r hI.2 hI.1.1 (hI.1.own hn) ((zbqZ hz (hf z (yBZ hzn))).2 hj).symm
end
/-! ### append(row in hand, texts...), where there may be none -/
theorem zivZ {P:Program} (w:World) (t ty e:TypeId) (i:TypeInfo) (ht:P.underlying t=some (.slice e)) (hi:P.info? e=some i) (A:Option Addr) (n c c2:Nat) (hn:n<=c) :
  (Builtin.append_ #[t,t] ty #[.slice A n c,.slice none 0 c2]).run P w=.ok (.slice A n c) w:=by
 simp[Builtin.append_,run_underlying ht,sizeOf,typeInfo,hi,Builtin.lenOf,Builtin.firstCells,hn];cases A <;> simp[storeCells]
theorem zqqZ {w:World} {o:Oper} {ρ:Operand->Value} {K:Value->World->Prop} (s x:Operand)
  (ho:o.op=.call { callee:=.builtin .append,args:=#[s,x],argTypes:=#[22, 22] })
  {B:Nat} {r v:Value} {l m:List Lx.Bytes} (hs:ρ s=r) (hx:ρ x=v) (hown:OwnS w B r l) (hv:Str w v m r) (hn:l.length+m.length<=100000000) (hB:B<=w.heap.size)
  (h:∀r' w',OwnS w' B r' (l++m)->Mv w r w' r'->K r' w'):opWp Tryz.prog o ρ w K:=by
 cases m with
 | cons u m=>exact zjvZ s x ho hs hx hown hv (yVZ _) hn hB h
 | nil=>
  obtain⟨A,c,rfl,hl⟩:=hv
  cases A with
  | some ad=>
   obtain⟨i,hi,hz0,hz1,hz2⟩:=info_parts zdsZ;obtain⟨v',w',hr,h2,h3,h4,h5⟩:=run_append_own_at (P:= Tryz.prog) w B 22 o.type 9 i _ 1 16 Tryz.underlying22 hi hz0 hz1 hz2 rfl (by decide) r l.length (strsV l) hown ad 0 c [] rfl (by intro j u hj;simp at hj) (by intro u hu;cases hu) (by unfold maxLen;omega) (by omega) hB;unfold opWp execOp;simp only[ynZ]at hx;simp only[ho,resolve,invoke,builtin,Sem.run_bind,Sem.run_pure,Result.andThen_ok,yIZ,yPZ,yRZ,hs,hx,hr];refine h v' w' ?_ ⟨h3,fun k hk=>?_⟩
   ·unfold OwnS;rw[List.append_nil];simpa using h2
   ·rcases h5 with h | h
    ·exact .inl (h.symm.trans hk)
    ·right;rw[h]at hk;injection hk with hk;omega
  | none=>
   obtain⟨i,hi,hz0,hz1,hz2⟩:=info_parts zdsZ;have H1:∃A n c,r=.slice A n c/\n<=c:=by
    rcases hown.2 with⟨rfl,h0⟩ | ⟨g,cap,cur,rfl,-,-,hcap,-⟩
    ·exact⟨none,0,0,rfl,ybZ _⟩
    ·exact⟨_,_,cap,rfl,hcap⟩
   obtain⟨A,n,c2,rfl,hnc⟩:=H1;have H0:=zivZ (P:= Tryz.prog) w 22 o.type 9 i Tryz.underlying22 hi A n c2 c hnc;unfold opWp execOp;simp only[ynZ]at hx;simp only[ho,resolve,invoke,builtin,Sem.run_bind,Sem.run_pure,Result.andThen_ok,yIZ,yPZ,yRZ,hs,hx,H0];exact h _ _ (by rw[List.append_nil];exact hown) (Mv.refl _ _)
section
variable {ops:Array Oper} {Q:Exit->Act->World->Prop} {a:Act} {apps:List Nat} {Fs:List (Value->World->Value->Nat->Prop)} {i:Nat} {o:Oper} {B:Nat} {W:World} {R0:Value} {Ls:Nat->List Lx.Bytes}
theorem OpOk.E (s x:Nat) {j p q:Nat} {m l0 l1:List Lx.Bytes} (hB:B<=W.heap.size) (hn:∀k,(Ls k).length<=100000000) (hF:nth Fs i=AppF (j+1)) (h0:Ls (j+1)=l0) (h1:Ls (j+2)=l1) (hp:nth Fs p=AppF j) (hq:nth Fs q=StrF m) (hLs:l1=l0++m:=by rfl)
  (ho:o.op=.call { callee:=.builtin .append,args:=#[.tmp s,.tmp x],argTypes:=#[22, 22] } :=by rfl) (hi:apps[j+1]? =some i:=by rfl) (hg:o.guard=none:=by rfl) (hrp:reads ops.toList i s p=true:=by kernel_rfl) (hr:reads ops.toList i x q=true:=by kernel_rfl):OpOk Tryz.prog Q ops a apps (RowI B W R0 Ls) RowM (nth Fs) i o:=by
 intro ρ u L w r k g1 g2 g3 g4 g5 g6 g7 g8 g9 g10 g11 g12 K hK;have H0:k<=j+1:=by have:=g11 i (j+1) hi;have H1:¬j+1<k:=fun hlt=>g8 (this.2 hlt);omega
 unfold reads at hr hrp;simp only[ygZ,ytZ]at hr hrp;have e1:=g9 p (g6 p hrp.2);have e2:=g9 q (g6 q hr.2);rw[hp]at e1;rw[hq]at e2;obtain rfl:k=j+1:=Nat.le_antisymm H0 e1.1;have hc:apps.contains i=true:=by simpa using List.mem_of_getElem? hi
 rw[zceZ hc]at hK;unfold guarded;rw[hg];obtain⟨hb,how,h00⟩:=g12;rw[h0]at how;refine zqqZ (.tmp s) (.tmp x) ho ((g1 s p hrp.1).trans (e1.2 rfl).symm) (g1 x q hr.1) how e2 (by have:=hn (j+2);rw[h1,hLs,ycZ]at this;exact this) (ymZ hB hb.size) fun r' w' ho' hmv=>?_;refine hK.o _ _ r' ⟨hmv,Nat.le_succ _,fun e=>by omega⟩ ⟨zyZ hb (ymZ hB hb.size) hmv (fun g hg=>(how.lt g hg).1),by rw[h1,hLs];exact ho',fun e=>by omega⟩ ?_;rw[hF];exact⟨ybZ _,fun _=>rfl⟩
end
/-! ### a row in hand beside them, from append to append -/
structure RowAt (cs:Array Value) (L:Nat) (vx:Value) (mx:List Lx.Bytes) (B:Nat) (W:World) (l:List Lx.Bytes) (w:World) (r:Value):Prop where
 own:OwnS w B r l
 bes:BesideS cs L vx mx w r
 b:Below B W w
section
variable {cs:Array Value} {L:Nat} {vx:Value} {mx:List Lx.Bytes} {B:Nat} {W:World} {l:List Lx.Bytes} {w:World} {r:Value}
theorem RowAt.app {w':World} {r':Value} {l':List Lx.Bytes} (h:RowAt cs L vx mx B W l w r) (hB:B<=W.heap.size) (ho:OwnS w' B r' l') (hm:Mv w r w' r'):RowAt cs L vx mx B W l' w' r':=
 ⟨ho,h.bes.mv hm,zyZ h.b (ymZ hB h.b.size) hm fun g hg=>(h.own.lt g hg).1⟩
theorem RowAt.go {w':World} (h:RowAt cs L vx mx B W l w r) (hB:B<=W.heap.size) (hb:Below w.heap.size w w'):RowAt cs L vx mx B W l w' r:=h.app hB (h.own.below hb) (Mv.of_below r hb)
theorem zzZ {ops:Array Oper} {rest:List Oper} {o:Oper} {a:Act} {Q:Exit->Act->World->Prop} (hgd:o.guard=none) (s x:Operand)
  (ho:o.op=.call { callee:=.builtin .append,args:=#[s,x],argTypes:=#[22, 22] }) (hs:a.eval s=r) {m:List Lx.Bytes} {c:Nat} {c0:Array Value} (hx:a.eval x=.slice (some ⟨w.heap.size,0,none⟩) m.length c)
  (H:RowAt cs L vx mx B W l w r) (hc:c0.toList=strsV m) (hm:0<m.length) (hn:l.length+m.length<=100000000) (hB:B<=W.heap.size)
  (h:∀A n' c' w',RowAt cs L vx mx B W (l++m) w' (.slice A n' c')->wpList Tryz.prog ops Q rest (a.put o.dst (.slice A n' c')) w'):wpList Tryz.prog ops Q (o::rest) a (w.alloc (.cells c0 9)):=by
 have ha:=H.go hB ((yqZ _ w).alloc (ybZ _) (.cells c0 9));refine zlZ hgd s x ho hs hx ha.own (Str.arr (ydZ w _) hc fun g hg=>(H.own.lt g hg).2) hm hn (ymZ hB ha.b.size) fun r' w' ho' hmv=>?_;obtain⟨A,c',rfl⟩:=ho'.slice;exact h A _ c' w' (ha.app hB ho' hmv)
theorem zbmZ {ops:Array Oper} {rest:List Oper} {o:Oper} {a:Act} {Q:Exit->Act->World->Prop} (hgd:o.guard=none) (s x:Operand)
  (ho:o.op=.call { callee:=.builtin .append,args:=#[s,x],argTypes:=#[22, 22] }) (hs:a.eval s=r) (hx:a.eval x=vx)
  (H:RowAt cs L vx mx B W l w r) (hm:0<mx.length) (hn:l.length+mx.length<=100000000) (hB:B<=W.heap.size)
  (h:∀A n' c' w',RowAt cs L vx mx B W (l++mx) w' (.slice A n' c')->wpList Tryz.prog ops Q rest (a.put o.dst (.slice A n' c')) w'):wpList Tryz.prog ops Q (o::rest) a w:=by
 refine zlZ hgd s x ho hs hx H.own H.bes.row hm hn (ymZ hB H.b.size) fun r' w' ho' hmv=>?_;obtain⟨A,c',rfl⟩:=ho'.slice;exact h A _ c' w' (H.app hB ho' hmv)
theorem zlyZ {ops:Array Oper} {rest:List Oper} {o:Oper} {a:Act} {Q:Exit->Act->World->Prop} (hgd:o.guard=none) (s x:Operand)
  (ho:o.op=.call { callee:=.builtin .append,args:=#[s,x],argTypes:=#[22, 22] }) (hs:a.eval s=r) {v:Value} {m:List Lx.Bytes} {w0:World} (hx:a.eval x=v)
  (H:RowAt cs L vx mx B W l w0 r) (hv:OwnS w w0.heap.size v m) (hb:Below w0.heap.size w0 w) (hm:0<m.length) (hn:l.length+m.length<=100000000) (hB:B<=W.heap.size)
  (h:∀A n' c' w',RowAt cs L vx mx B W (l++m) w' (.slice A n' c')->wpList Tryz.prog ops Q rest (a.put o.dst (.slice A n' c')) w'):wpList Tryz.prog ops Q (o::rest) a w:=by
 have ha:=H.go hB hb;refine zlZ hgd s x ho hs hx ha.own (Str.of_own hv fun g hg=>(H.own.lt g hg).2) hm hn (ymZ hB ha.b.size) fun r' w' ho' hmv=>?_;obtain⟨A,c',rfl⟩:=ho'.slice;exact h A _ c' w' (ha.app hB ho' hmv)
end
end Go.Proofs.YtdncljdfmdgdaaaGreatDoor
