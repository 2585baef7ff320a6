/-
  A region that draws its order: each operation is shown once, over the facts of those that it waits for.
-/
import Derived.Test.YtdncljdfmdgdaaaGreatDoorM1
import Derived.Test.YtdncljdfmdgdaaaGreatDoorM29
import Derived.Lib.Hide
import Derived.Test.YtdncljdfmdgdaaaGreatDoorM12
import Derived.Test.YtdncljdfmdgdaaaGreatDoorM16
set_option linter.unusedSimpArgs false
set_option linter.unusedVariables false
set_option maxRecDepth 100000
namespace Go.Proofs.YtdncljdfmdgdaaaGreatDoor
open Go.RowKit
def fillAct (u:Nat→Value):List Oper→Nat→Act→Act
 | [],_,a=>a
 | o::l,k,a=>fillAct u l (k+1) (a.put o.dst (u k))
def upd (u:Nat→Value) (i:Nat) (x:Value):Nat→Value:=fun j=>if j=i then x else u j
def slots (l:List Oper):List Tmp:=l.filterMap (·.dst)
def slotAt (l:List Oper) (i:Nat):Option Tmp:=(l[i]?).bind (·.dst)
theorem zeyZ {u v:Nat→Value} : ∀(l:List Oper) (k:Nat) (a:Act),(∀j,k≤j→u j=v j)→fillAct u l k a=fillAct v l k a
 | [],k,a,h=>rfl
 | o::l,k,a,h=>by
  rw[fillAct,fillAct,h k (Nat.le_refl _)]
  exact zeyZ l (k+1) _ fun j hj=>h j (by omega)
theorem zulZ (a:Act) (d:Option Tmp) (x y:Value):(a.put d x).put d y=a.put d y:=by
 cases d with
 | none=>rfl
 | some d=>simp[Act.put]
theorem zdhZ {u:Nat→Value} (d:Option Tmp) (x:Value):∀(l:List Oper) (k:Nat) (a:Act),(∀t,d=some t→t ∉ slots l)→(fillAct u l k a).put d x=fillAct u l k (a.put d x)
 | [],k,a,h=>rfl
 | o::l,k,a,h=>by
  rw[fillAct,fillAct,zdhZ d x l (k+1) _ (fun t ht hm=>h t ht ?_),Act.put_comm a _ _ ?_]
  ·intro t ht he
   exact h t he (by unfold slots;rw[List.filterMap_cons,ht];exact List.mem_cons_self)
  ·unfold slots at hm ⊢
   rw[List.filterMap_cons]
   split
   ·exact hm
   ·exact List.mem_cons_of_mem _ hm
theorem zbrZ {o:Oper} {l:List Oper} (h:(slots (o::l)).Nodup):(slots l).Nodup∧∀t,o.dst=some t→t ∉ slots l:=by
 unfold slots at h ⊢
 rw[List.filterMap_cons]at h
 cases hd:o.dst with
 | none=>rw[hd]at h;exact⟨h,fun t ht=>by cases ht⟩
 | some d=>
  rw[hd]at h
  obtain⟨h1,h2⟩:=List.nodup_cons.1 h
  exact⟨h2,fun t ht=>by injection ht with ht;subst ht;exact h1⟩
theorem zgkZ {u:Nat→Value} (x:Value):∀(l:List Oper) (k i:Nat) (a:Act) (o:Oper),(slots l).Nodup→l[i]? =some o→(fillAct u l k a).put o.dst x=fillAct (upd u (k+i) x) l k a
 | [],k,i,a,o,hn,h=>by simp at h
 | o'::l,k,0,a,o,hn,h=>by
  simp only[List.getElem?_cons_zero,Option.some.injEq]at h
  subst h
  rw[fillAct,fillAct,zdhZ _ x l (k+1) _ (zbrZ hn).2,zulZ]
  rw[show upd u (k+0) x k=x by simp[upd]]
  exact zeyZ l (k+1) _ fun j hj=>by simp only[upd];rw[if_neg (by omega)]
 | o'::l,k,i+1,a,o,hn,h=>by
  simp only[List.getElem?_cons_succ]at h
  rw[fillAct,fillAct,zgkZ x l (k+1) i _ o (zbrZ hn).1 h,show k+1+i=k+(i+1)by omega]
  rw[show upd u (k+(i+1)) x k=u k by simp only[upd];rw[if_neg (by omega)]]
theorem zseZ (a:Act) (d:Tmp):a.put (some d) (a.eval (.tmp d))=a:=by
 cases a with
 | mk t ds=>
  simp only[Act.put,Act.eval]
  congr 1
  apply Array.ext (by simp)
  intro i h1 h2
  rw[Array.getElem_setIfInBounds]
  ·split
   ·rename_i he
    subst he
    simp[h2]
   ·rfl
theorem zfoZ {u:Nat→Value} (a:Act):∀(l:List Oper) (k:Nat),(∀i d,slotAt l i=some d→u (k+i)=a.eval (.tmp d))→fillAct u l k a=a
 | [],k,h=>rfl
 | o::l,k,h=>by
  have h0:a.put o.dst (u k)=a:=by
   cases hd:o.dst with
   | none=>rfl
   | some d=>rw[show u k=a.eval (.tmp d)from h 0 d (by simp[slotAt,hd])];exact zseZ a d
  rw[fillAct,h0]
  exact zfoZ a l (k+1) fun i d hd=>by
   have:=h (i+1) d (by simpa[slotAt]using hd)
   rw[show k+1+i=k+(i+1)by omega]
   exact this
theorem zsfZ (a:Act) (d:Option Tmp) (x:Value):(a.put d x).tmps.size=a.tmps.size:=by
 cases d <;> simp[Act.put]
theorem zdgZ {u:Nat→Value} : ∀(l:List Oper) (k:Nat) (a:Act) (d:Tmp),d ∉ slots l→(fillAct u l k a).eval (.tmp d)=a.eval (.tmp d)
 | [],k,a,d,h=>rfl
 | o::l,k,a,d,h=>by
  have h1:d ∉ slots l:=fun hm=>h (by unfold slots at hm ⊢;rw[List.filterMap_cons];split;exact hm;exact List.mem_cons_of_mem _ hm)
  rw[fillAct,zdgZ l (k+1) _ d h1]
  refine Act.eval_put fun t ht he=>?_
  injection he with he
  subst he
  exact h (by unfold slots;rw[List.filterMap_cons,ht];exact List.mem_cons_self)
theorem zfpZ {u:Nat→Value} : ∀(l:List Oper) (k i:Nat) (a:Act) (d:Tmp),(slots l).Nodup→slotAt l i=some d→d<a.tmps.size→(fillAct u l k a).eval (.tmp d)=u (k+i)
 | [],k,i,a,d,hn,h,hs=>by simp[slotAt]at h
 | o::l,k,0,a,d,hn,h,hs=>by
  have hd:o.dst=some d:=by simpa[slotAt]using h
  rw[fillAct,zdgZ l (k+1) _ d ((zbrZ hn).2 d hd),hd]
  simp[Act.put,Act.eval,hs]
 | o::l,k,i+1,a,d,hn,h,hs=>by
  rw[fillAct,zfpZ l (k+1) i _ d (zbrZ hn).1 (by simpa[slotAt]using h) (by rw[zsfZ];exact hs),show k+1+i=k+(i+1)by omega]
section
variable {P:Program} {ops:Array Oper} {Q:Exit→Act→World→Prop}
def edge (ops:List Oper) (i j:Nat):Bool:=((ops[i]?).map fun o=>o.after.any fun e=>Region.binds .any e&&e.on==j).getD false
def nextK (apps:List Nat) (i k:Nat):Nat:=if apps.contains i then k+1 else k
def slotsIn (ops:List Oper) (n:Nat):Bool:=ops.all fun o=>match o.dst with | some d=>decide (d<n) | none=>true
def slotsOk (ops:List Oper):Bool:=decide (slots ops).Nodup
def appsOk (apps:List Nat) (n:Nat):Bool:=decide apps.Nodup&&apps.all (· < n)
def chained (ops:List Oper):List Nat→Bool
 | i::j::l=>edge ops j i&&chained ops (j::l)
 | _=>true
theorem zfqZ {ops:List Oper} : ∀(l:List Nat) (e i j:Nat),chained ops l=true→l[e]? =some i→l[e+1]? =some j→edge ops j i=true
 | [],e,i,j,h,h1,h2=>by simp at h1
 | [x],e,i,j,h,h1,h2=>by simp at h2
 | x::y::l,0,i,j,h,h1,h2=>by
  simp at h1 h2
  subst h1 h2
  rw[chained,Bool.and_eq_true]at h
  exact h.1
 | x::y::l,e+1,i,j,h,h1,h2=>by
  rw[chained,Bool.and_eq_true]at h
  exact zfqZ (y::l) e i j h.2 (by simpa using h1) (by simpa using h2)
theorem zpjZ {l:List Nat} (h:l.Nodup):∀ {i j:Nat} (hi:i<l.length) (hj:j<l.length),l[i]=l[j]→i=j:=by
 induction l with
 | nil=>intro i j hi;simp at hi
 | cons x l ih=>
  obtain⟨h1,h2⟩:=List.nodup_cons.1 h
  intro i j hi hj e
  cases i with
  | zero=>
   cases j with
   | zero=>rfl
   | succ j=>exact absurd (by simp at e;rw[e];exact List.getElem_mem _) h1
  | succ i=>
   cases j with
   | zero=>exact absurd (by simp at e;rw[←e];exact List.getElem_mem _) h1
   | succ j=>exact congrArg (· +1) (ih h2 (by simpa using hi) (by simpa using hj) (by simpa using e))
def upon2 (P:Program) (K:Value→World→Prop):Result Next→Prop
 | .ok (.value v) w'=>K v w'
 | .ok .skip w'=>K undef w'
 | .ok (.enter f args) w'=>Calls P f args w' fun e w''=>∃v,e=.returned v∧K v w''
 | _=>False
theorem zbaZ (K:Value→World→Prop) (v:Value) (w:World):upon2 P K (.ok (.value v) w)=K v w:=rfl
theorem zbcZ (K:Value→World→Prop) (w:World):upon2 P K (.ok .skip w)=K undef w:=rfl
theorem zbbZ (K:Value→World→Prop) (f:FuncId) (args:Array Value) (w:World):upon2 P K (.ok (.enter f args) w)=Calls P f args w fun e w''=>∃v,e=.returned v∧K v w'':=rfl
def opWp (P:Program) (o:Oper) (ρ:Operand→Value) (w:World) (K:Value→World→Prop):Prop:=upon2 P K ((execOp ρ o).run P w)
theorem zhrZ {o:Oper} {A:Act} {w:World} {K:Act→World→Prop} (h:opWp P o A.eval w fun v w'=>K (A.put o.dst v) w'):o.wp P A w K Q:=by
 unfold Oper.wp
 unfold opWp at h
 generalize (execOp A.eval o).run P w=r at *
 cases r with
 | ok n w'=>
  cases n <;> simp only[Oper.upon,upon2]at h ⊢
  case value=>exact h
  case skip=>exact h
  case enter=>exact Calls.mono h fun e w'' he=>by obtain⟨v,rfl,he⟩:=he;exact he
 | halt x w'=>exact absurd h (by simp[upon2])
def guarded (ops:List Oper) (u:Nat→Value) (o:Oper) (K:Value→World→Prop) (w:World) (X:Prop):Prop:=
 match o.guard with
 | none=>X
 | some (g,b)=>(slotAt ops g).isSome=true∧(u g=.bool b→X)∧(u g≠.bool b→K undef w)
def OpOk (P:Program) (Q:Exit→Act→World→Prop) (ops:Array Oper) (a:Act) (apps:List Nat) (I:Nat→World→Value→Prop) (M:World→Value→Nat→World→Value→Nat→Prop)
  (F:Nat→Value→World→Value→Nat→Prop) (i:Nat) (o:Oper):Prop:=
 ∀(ρ:Operand→Value) (u:Nat→Value) (L:Nat→Prop) (w:World) (r:Value) (k:Nat),
  (∀d j,slotAt ops.toList j=some d→ρ (.tmp d)=u j)→
  (∀d,(slots ops.toList).contains d=false→ρ (.tmp d)=a.eval (.tmp d))→(∀v,ρ (.const v)=v)→(∀g,ρ (.global g)=.pointer (some ⟨g,0,none⟩))→(∀f,ρ (.func f)=.func (.func f) #[] #[])→
  (∀j,edge ops.toList i j=true→L j)→(∀j j',edge ops.toList j j'=true→L j→L j')→¬L i→
  (∀j,L j→F j (u j) w r k)→(∀d j,slotAt ops.toList j=some d→¬L j→u j=a.eval (.tmp d))→
  (∀j e,apps[e]? =some j→(L j↔e<k))→I k w r→
  ∀K:Value→World→Prop,Hid (∀x w' r',M w r k w' r' (nextK apps i k)→I (nextK apps i k) w' r'→F i x w' r' (nextK apps i k)→K x w')→
   guarded ops.toList u o K w (opWp P o ρ w K)
def OpsOk (P:Program) (Q:Exit→Act→World→Prop) (ops:Array Oper) (a:Act) (apps:List Nat) (I:Nat→World→Value→Prop) (M:World→Value→Nat→World→Value→Nat→Prop)
  (F:Nat→Value→World→Value→Nat→Prop) (k:Nat) (l:List Oper):Prop:=∀j o,l[j]? =some o→OpOk P Q ops a apps I M F (k+j) o
theorem OpsOk.nil {a:Act} {apps:List Nat} {I:Nat→World→Value→Prop} {M:World→Value→Nat→World→Value→Nat→Prop} {F:Nat→Value→World→Value→Nat→Prop} {k:Nat} : OpsOk P Q ops a apps I M F k []:=fun j o h=>by simp at h
theorem OpsOk.cons {a:Act} {apps:List Nat} {I:Nat→World→Value→Prop} {M:World→Value→Nat→World→Value→Nat→Prop} {F:Nat→Value→World→Value→Nat→Prop} {k:Nat} {o:Oper} {l:List Oper}
  (h:OpOk P Q ops a apps I M F k o) (hl:OpsOk P Q ops a apps I M F (k+1) l):OpsOk P Q ops a apps I M F k (o::l):=by
 intro j o' hj
 cases j with
 | zero=>
  simp only[List.getElem?_cons_zero,Option.some.injEq]at hj
  subst hj
  exact h
 | succ j=>
  simp only[List.getElem?_cons_succ]at hj
  have:=hl j o' hj
  rw[show k+1+j=k+(j+1)by omega]at this
  exact this
def Stays (M:World→Value→Nat→World→Value→Nat→Prop) (f:Value→World→Value→Nat→Prop):Prop:=∀x w r k w' r' k',M w r k w' r' k'→f x w r k→f x w' r' k'
def AllStay (M:World→Value→Nat→World→Value→Nat→Prop) (Fs:List (Value→World→Value→Nat→Prop)):Prop:=∀f∈Fs,Stays M f
theorem AllStay.nil {M:World→Value→Nat→World→Value→Nat→Prop} : AllStay M []:=fun f h=>by cases h
theorem AllStay.cons {M:World→Value→Nat→World→Value→Nat→Prop} {f:Value→World→Value→Nat→Prop} {Fs:List (Value→World→Value→Nat→Prop)} (h:Stays M f) (hs:AllStay M Fs):AllStay M (f::Fs):=by
 intro g hg
 rcases List.mem_cons.1 hg with rfl | hg
 ·exact h
 ·exact hs g hg
def nth (Fs:List (Value→World→Value→Nat→Prop)) (j:Nat):Value→World→Value→Nat→Prop:=Fs.getD j fun _ _ _ _=>True
def RJ (ops:Array Oper) (apps:List Nat) (I:Nat→World→Value→Prop) (F:Nat→Value→World→Value→Nat→Prop):Act→Array Bool→Act→World→Prop:=
 fun a listed a' w'=>∃(u:Nat→Value) (r:Value) (k:Nat),listed.size=ops.size∧k≤apps.length∧a'=fillAct u ops.toList 0 a∧I k w' r∧
  (∀j e:Nat,apps[e]? =some j→(listed[j]? =some true↔e<k))∧(∀j j',edge ops.toList j j'=true→listed[j]? =some true→listed[j']? =some true)∧
  (∀j,listed[j]? =some true→F j (u j) w' r k)∧(∀d j,slotAt ops.toList j=some d→¬listed[j]? =some true→u j=a.eval (.tmp d))
theorem RJ_start {a:Act} {w:World} {apps:List Nat} {I:Nat→World→Value→Prop} {F:Nat→Value→World→Value→Nat→Prop} {R0:Value} (h0:I 0 w R0):RJ ops apps I F a (Array.replicate ops.size false) a w:=by
 refine⟨fun j=>match slotAt ops.toList j with | some d=>a.eval (.tmp d) | none=>undef,R0,0,by simp,Nat.zero_le _,?_,h0,?_,?_,?_,?_⟩
 ·refine(zfoZ a _ 0 fun i d hd=>?_).symm
  rw[Nat.zero_add]
  simp only[hd]
 ·intro j e he
  constructor
  ·intro h
   rw[Array.getElem?_replicate]at h
   split at h <;> simp at h
  ·intro h;omega
 ·intro j j' _ h
  rw[Array.getElem?_replicate]at h
  split at h <;> simp at h
 ·intro j h
  rw[Array.getElem?_replicate]at h
  split at h <;> simp at h
 ·intro d j hd _
  simp only[hd]
theorem RJ_step {a:Act} {apps:List Nat} {I:Nat→World→Value→Prop} {M:World→Value→Nat→World→Value→Nat→Prop}
  {Fs:List (Value→World→Value→Nat→Prop)} (hb:backward ops=true) (hs:slotsOk ops.toList=true) (hr:slotsIn ops.toList a.tmps.size=true) (ha:appsOk apps ops.size=true) (hch:chained ops.toList apps=true)
  (hF:AllStay M Fs) (hstep:OpsOk P Q ops a apps I M (nth Fs) 0 ops.toList):Each P ops .any Q (RJ ops apps I (nth Fs) a) 0 ops.toList:=by
 have He:(slots ops.toList).Nodup:=by simpa[slotsOk]using hs
 have H5:∀i d,slotAt ops.toList i=some d→d<a.tmps.size:=by
  intro i d hd
  unfold slotsIn at hr
  rw[List.all_eq_true]at hr
  unfold slotAt at hd
  obtain⟨o,ho,hod⟩:=Option.bind_eq_some_iff.1 hd
  have:=hr o (List.mem_of_getElem? ho)
  rw[hod]at this
  simpa using this
 obtain⟨hapn,hapr⟩:apps.Nodup∧∀j∈apps,j<ops.size:=by
  simpa[appsOk]using ha
 have H6:∀e e' j:Nat,apps[e]? =some j→apps[e']? =some j→e=e':=by
  intro e e' j h1 h2
  obtain⟨l1,g1⟩:=List.getElem?_eq_some_iff.1 h1
  obtain⟨l2,g2⟩:=List.getElem?_eq_some_iff.1 h2
  exact zpjZ hapn l1 l2 (g1.trans g2.symm)
 have H8:∀j,Stays M (nth Fs j):=by
  intro j
  unfold nth
  rw[List.getD_eq_getElem?_getD]
  cases hj:Fs[j]? with
  | none=>exact fun _ _ _ _ _ _ _ _ _=>trivial
  | some f=>exact hF f (List.mem_of_getElem? hj)
 intro i o ho listed A w' hf hw hJ K hK
 obtain⟨u,r,k,hsz,hk,hA,hI,hap,hcl,hfc,hun⟩:=hJ
 rw[Nat.zero_add]at hf
 rw[Nat.zero_add]at hK
 have hi:i<ops.size:=by rw[←hsz];exact(Array.getElem?_eq_some_iff.1 hf).1
 have H2:∀j:Nat,(listed.setIfInBounds i true)[j]? =some true↔(j=i∨listed[j]? =some true):=by
  intro j
  by_cases H1:j=i
  ·subst H1
   simp[hsz,hi]
  ·rw[Array.getElem?_setIfInBounds_ne (Ne.symm H1)]
   simp[H1]
 have H0:∀j,edge ops.toList i j=true→listed[j]? =some true:=by
  intro j hj
  unfold edge at hj
  rw[ho]at hj
  simp only[Option.map_some,Option.getD_some,Array.any_eq_true',Bool.and_eq_true,beq_iff_eq]at hj
  obtain⟨e,he,hbnd,rfl⟩:=hj
  unfold Waited at hw
  rw[Array.all_eq_true']at hw
  have:=hw e he
  rw[hbnd]at this
  simp only[Bool.not_true,Bool.false_or]at this
  cases hx:listed[e.on]? with
  | none=>simp[Array.getD_eq_getD_getElem?,hx]at this
  | some b=>simp[Array.getD_eq_getD_getElem?,hx]at this;rw[this]
 have Hg:¬listed[i]? =some true:=by rw[hf];simp
 have H4:∀d j,slotAt ops.toList j=some d→A.eval (.tmp d)=u j:=fun d j hd=>by
  rw[hA]
  have:=zfpZ (u:=u) ops.toList 0 j a d He hd (H5 j d hd)
  rw[Nat.zero_add]at this
  exact this
 have Hh:=hstep i o ho A.eval u (fun j=>listed[j]? =some true) w' r k H4 (fun d hd=>by rw[hA];exact zdgZ ops.toList 0 a d (by simpa using hd)) (fun _=>rfl) (fun _=>rfl) (fun _=>rfl)
  (by rw[Nat.zero_add];exact H0) hcl (by rw[Nat.zero_add];exact Hg) hfc hun hap hI (fun v w''=>K (A.put o.dst v) w'')
 rw[Nat.zero_add]at Hh
 suffices hK2:∀x w'' r',M w' r k w'' r' (nextK apps i k)→I (nextK apps i k) w'' r'→nth Fs i x w'' r' (nextK apps i k)→K (A.put o.dst x) w'' by
  have:=Hh (zh hK2)
  unfold guarded at this
  cases hg:o.guard with
  | none=>
   rw[hg]at this
   rw[if_pos (by unfold Region.wanted;rw[hg])]
   exact zhrZ this
  | some gb=>
   obtain⟨g,b⟩:=gb
   rw[hg]at this
   obtain⟨hsome,h1,h2⟩:=this
   obtain⟨d,hd⟩:=Option.isSome_iff_exists.1 hsome
   have H7:=H4 d g hd
   have Hc:(ops[g]?).bind (·.dst)=some d:=by
    unfold slotAt at hd
    rw[Array.getElem?_toList]at hd
    exact hd
   by_cases hcb:u g=.bool b
   ·rw[hcb]at H7
    have H3:d<A.tmps.size:=by
     rcases Nat.lt_or_ge d A.tmps.size with h | h
     ·exact h
     ·simp[Act.eval,undef,Nat.not_lt.2 h]at H7
    have hy:yielded ops A.tmps g=some b:=by
     unfold yielded
     rw[Hc]
     simp only[Option.bind_some]
     simp only[Act.eval,Array.getD,dif_pos H3]at H7
     rw[Array.getElem?_eq_getElem H3]
     rw[show A.tmps[d]=.bool b from H7]
    have H9:Region.wanted o (yielded ops A.tmps)=true:=by
     unfold Region.wanted
     rw[hg]
     simp only[hy]
     simp
    rw[if_pos H9]
    exact zhrZ (h1 hcb)
   ·have H9:¬Region.wanted o (yielded ops A.tmps)=true:=by
     unfold Region.wanted
     rw[hg]
     intro hw
     simp only[beq_iff_eq]at hw
     unfold yielded at hw
     rw[Hc]at hw
     simp only[Option.bind_some]at hw
     cases ht:A.tmps[d]? with
     | none=>rw[ht]at hw;cases hw
     | some x=>
      rw[ht]at hw
      have H3:=(Array.getElem?_eq_some_iff.1 ht).1
      have hx:u g=x:=by
       rw[←H7]
       simp only[Act.eval,Array.getD,dif_pos H3]
       rw[Array.getElem?_eq_getElem H3]at ht
       exact Option.some.inj ht
      apply hcb
      rw[hx]
      cases x <;> simp at hw
      subst hw
      rfl
    rw[if_neg H9]
    exact h2 hcb
 intro x w'' r' hM hI' hFi
 refine hK.o _ _ ?_
 have Hd:(apps.contains i=true∧∃e,apps[e]? =some i∧nextK apps i k=k+1∧e=k)∨(apps.contains i=false∧nextK apps i k=k):=by
  cases hc:apps.contains i with
  | false=>right;exact⟨rfl,by unfold nextK;rw[hc];rfl⟩
  | true=>
   left
   refine⟨rfl,?_⟩
   have Hb:i∈apps:=by simpa using hc
   obtain⟨e,he⟩:=List.mem_iff_getElem?.1 Hb
   refine⟨e,he,by unfold nextK;rw[hc];rfl,?_⟩
   have h1:¬e<k:=fun h=>Hg ((hap i e he).2 h)
   have h2:¬k<e:=by
    intro H3
    obtain⟨e,rfl⟩:∃e',e=e'+1:=⟨e-1,by omega⟩
    have Ha:e<apps.length:=by have:=(List.getElem?_eq_some_iff.1 he).1;omega
    have Hf:=List.getElem?_eq_getElem Ha
    have:=(hap _ e Hf).1 (H0 _ (zfqZ apps e _ i hch Hf he))
    omega
   omega
 refine⟨upd u i x,r',nextK apps i k,by simpa using hsz,?_,?_,hI',?_,?_,?_,?_⟩
 ·rcases Hd with⟨-,e,he,hk1,rfl⟩ | ⟨-,hk1⟩
  ·rw[hk1];exact(List.getElem?_eq_some_iff.1 he).1
  ·rw[hk1];exact hk
 ·rw[hA,zgkZ x ops.toList 0 i a o He ho,Nat.zero_add]
 ·intro j e he
  rw[H2,hap j e he]
  rcases Hd with⟨-,e',he',hk1,rfl⟩ | ⟨hc,hk1⟩
  ·rw[hk1]
   constructor
   ·rintro(rfl | h)
    ·rw[H6 _ _ _ he he'];omega
    ·omega
   ·intro h
    by_cases H3:e<e'
    ·exact .inr H3
    ·obtain rfl:e=e':=by omega
     left
     rw[he]at he'
     injection he'
  ·rw[hk1]
   constructor
   ·rintro(rfl | h)
    ·exfalso
     have:apps.contains j=true:=by simpa using List.mem_of_getElem? he
     rw[hc]at this
     cases this
    ·exact h
   ·exact .inr
 ·intro j j' he hj
  rw[H2]at hj ⊢
  rcases hj with rfl | hj
  ·exact .inr (H0 j' he)
  ·exact .inr (hcl j j' he hj)
 ·intro j hj
  rw[H2]at hj
  by_cases H1:j=i
  ·subst H1
   rw[show upd u j x j=x by simp[upd]]
   exact hFi
  ·rw[show upd u i x j=u j by simp[upd,H1]]
   exact H8 j _ _ _ _ _ _ _ hM (hfc j (by rcases hj with h | h;exact absurd h H1;exact h))
 ·intro d j hd hj
  rw[H2]at hj
  have H1:j≠i:=fun h=>hj (.inl h)
  rw[show upd u i x j=u j by simp[upd,H1]]
  exact hun d j hd fun h=>hj (.inr h)
theorem RJ_done {a:Act} {apps:List Nat} {I:Nat→World→Value→Prop} {Fs:List (Value→World→Value→Nat→Prop)} (ha:appsOk apps ops.size=true) {n:Nat} (hn:ops.size=n)
  (hdone:∀(u:Nat→Value) (w':World) (r:Value),I apps.length w' r→(∀j,j<n→nth Fs j (u j) w' r apps.length)→Q .normal (fillAct u ops.toList 0 a) w') :
  ∀a' w',RJ ops apps I (nth Fs) a (Array.replicate ops.size true) a' w'→Q .normal a' w':=by
 obtain⟨hapn,hapr⟩:apps.Nodup∧∀j∈apps,j<ops.size:=by
  simpa[appsOk]using ha
 intro a' w' hJ
 obtain⟨u,r,k,hsz,hk,rfl,hI,hap,hcl,hfc,hun⟩:=hJ
 have H0:∀j,j<ops.size→(Array.replicate ops.size true)[j]? =some true:=fun j hj=>by
  rw[Array.getElem?_replicate,if_pos hj]
 obtain rfl:k=apps.length:=by
  cases Nat.lt_or_ge k apps.length with
  | inr h=>omega
  | inl h=>
   have:=(hap apps[k] k (List.getElem?_eq_getElem h)).1 (H0 _ (hapr _ (List.getElem_mem h)))
   omega
 exact hdone u w' r hI fun j hj=>hfc j (H0 j (by rw[hn];exact hj))
theorem zoZ {id:Nat} {a:Act} {w:World} (hm:P.follows .mixedOrders=true) (apps:List Nat) (I:Nat→World→Value→Prop) (M:World→Value→Nat→World→Value→Nat→Prop)
  (Fs:List (Value→World→Value→Nat→Prop)) (R0:Value) (hb:backward ops=true) (hs:slotsOk ops.toList=true) (hr:slotsIn ops.toList a.tmps.size=true) (ha:appsOk apps ops.size=true) (hch:chained ops.toList apps=true)
  (hF:AllStay M Fs) {n:Nat} (hn:ops.size=n) (h0:I 0 w.drew R0) (hstep:OpsOk P Q ops a apps I M (nth Fs) 0 ops.toList)
  (hdone:∀(u:Nat→Value) (w':World) (r:Value),I apps.length w' r→(∀j,j<n→nth Fs j (u j) w' r apps.length)→Q .normal (fillAct u ops.toList 0 a) w') :
  (Code.region id ops true).wp P Q a w:=
 zhqZ (RJ ops apps I (nth Fs)) hm hb (RJ_start h0) (RJ_step hb hs hr ha hch hF hstep) (RJ_done ha hn hdone)
theorem zqZ {id:Nat} {a:Act} {w:World} (apps:List Nat) (I:Nat→World→Value→Prop) (M:World→Value→Nat→World→Value→Nat→Prop)
  (Fs:List (Value→World→Value→Nat→Prop)) (R0:Value) (hb:backward ops=true) (hs:slotsOk ops.toList=true) (hr:slotsIn ops.toList a.tmps.size=true) (ha:appsOk apps ops.size=true) (hch:chained ops.toList apps=true)
  (hF:AllStay M Fs) {n:Nat} (hn:ops.size=n) (h0:I 0 w R0) (hstep:OpsOk P Q ops a apps I M (nth Fs) 0 ops.toList)
  (hdone:∀(u:Nat→Value) (w':World) (r:Value),I apps.length w' r→(∀j,j<n→nth Fs j (u j) w' r apps.length)→Q .normal (fillAct u ops.toList 0 a) w') :
  (Code.region id ops false).wp P Q a w:=
 zjhZ (RJ ops apps I (nth Fs)) hb (RJ_start h0) (RJ_step hb hs hr ha hch hF hstep) (RJ_done ha hn hdone)
end
end Go.Proofs.YtdncljdfmdgdaaaGreatDoor
namespace Go.Proofs.YtdncljdfmdgdaaaGreatDoor
open Go.RowKit Go.Shelf
structure Mv (w:World) (r:Value) (w':World) (r':Value):Prop where
 g:w.grownBy w' r.ownBlock
 own:∀k,r'.ownBlock=some k→r.ownBlock=some k∨w.heap.size≤k
theorem Mv.refl (w:World) (r:Value):Mv w r w r:=⟨⟨rfl,rfl,rfl,Nat.le_refl _,fun _ _ _=>rfl⟩,fun _ h=>.inl h⟩
theorem Mv.of_below {w w':World} (r:Value) (h:Below w.heap.size w w'):Mv w r w' r:=⟨⟨h.os,h.tape,h.output,h.size,fun k hk _=>h.block k hk⟩,fun _ h=>.inl h⟩
theorem Mv.first {w w':World} {r r':Value} (h:Below w.heap.size w w') (hr:∀k,r'.ownBlock=some k→w.heap.size≤k):Mv w r w' r':=⟨⟨h.os,h.tape,h.output,h.size,fun k hk _=>h.block k hk⟩,fun k hk=>.inr (hr k hk)⟩
theorem zzZ {B:Nat} {w0 w w':World} {r r':Value} (hb:Below B w0 w) (hB:B≤w.heap.size) (h:Mv w r w' r') (hr:∀k,r.ownBlock=some k→B≤k):Below B w0 w':=
 ⟨h.g.os.trans hb.os,h.g.tape.trans hb.tape,h.g.output.trans hb.output,Nat.le_trans hb.size h.g.size,fun k hk=>(h.g.block k (by omega) fun e=>by have:=hr k e.symm;omega).trans (hb.block k hk)⟩
def Str (w:World) (v:Value) (m:List Lx.Bytes) (r:Value):Prop:=
 ∃A c,v=.slice A m.length c∧∀j u,(strsV m)[j]? =some u→∃g off,A=some ⟨g,off,none⟩∧w.cell? ⟨g,off+j,none⟩=some u∧r.ownBlock≠some g
theorem Str.mv {w w':World} {v r r':Value} {m:List Lx.Bytes} (h:Str w v m r) (hm:Mv w r w' r'):Str w' v m r':=by
 obtain⟨A,c,hv,hl⟩:=h
 refine⟨A,c,hv,fun j u hj=>?_⟩
 obtain⟨g,off,hA,hc,hr⟩:=hl j u hj
 have hg:=World.block_lt_of_cell? w ⟨g,off+j,none⟩ hc
 refine⟨g,off,hA,(World.cell?_of_block (hm.g.block g hg fun e=>hr e.symm)).trans hc,fun e=>?_⟩
 rcases hm.own g e with h | h
 ·exact hr h
 ·exact absurd hg (Nat.not_lt.2 h)
theorem Str.one {w:World} {g:Nat} {s:Lx.Bytes} {r:Value} {c:Nat} {t:TypeId} {fr:Nat×Nat} (h:w.heap[g]? =some (.cells #[.string ⟨s.toArray⟩] t fr)) (hr:∀k,r.ownBlock=some k→k<g):Str w (.slice (some ⟨g,0,none⟩) 1 c) [s] r:=by
 refine⟨_,c,rfl,fun j u hj=>⟨g,0,rfl,?_,fun e=>by have:=hr g e;omega⟩⟩
 rw[Nat.zero_add,zdZ h,←Array.getElem?_toList]
 exact hj
theorem Str.of_own {w:World} {B:Nat} {v r:Value} {m:List Lx.Bytes} (h:OwnS w B v m) (hr:∀k,r.ownBlock=some k→k<B):Str w v m r:=by
 have H0:=h.row
 obtain⟨A,c,rfl⟩:=h.slice
 refine⟨A,c,rfl,fun j u hj=>?_⟩
 obtain⟨g,off,hA,hc⟩:=H0.cells.2 j u hj
 refine⟨g,off,hA,hc,fun e=>?_⟩
 have h1:=hr g e
 have h2:=World.ownsRow.lt h g ?_
 ·omega
 ·rcases h.2 with⟨h3,-⟩ | ⟨g',cap,cur,h3,-⟩
  ·rw[hA]at h3;injection h3 with h3;cases h3
  ·injection h3 with h3
   rw[hA]at h3
   injection h3 with h3
   injection h3 with h3
   subst h3
   rw[hA]
   subst_vars
   rfl
theorem OwnS.lt {w:World} {B:Nat} {v:Value} {l:List Lx.Bytes} (h:OwnS w B v l) (k:Nat) (hk:v.ownBlock=some k):B≤k∧k<w.heap.size:=World.ownsRow.lt h k hk
theorem OwnS.below {w w':World} {B:Nat} {v:Value} {l:List Lx.Bytes} (h:OwnS w B v l) (hb:Below w.heap.size w w'):OwnS w' B v l:=
 World.ownsRow.kept h (zbfZ hb) (by cases v.ownBlock <;> simp)
theorem OwnS.base_le {w:World} {B B':Nat} {v:Value} {l:List Lx.Bytes} (h:OwnS w B v l) (hb:B'≤B):OwnS w B' v l:=by
 refine⟨h.1,?_⟩
 rcases h.2 with hn | ⟨g,cap,cur,rfl,hg,rest⟩
 ·exact .inl hn
 ·exact .inr ⟨g,cap,cur,rfl,by omega,rest⟩
theorem zfrZ (l m:List Lx.Bytes):strsV (l++m)=strsV l++strsV m:=by unfold strsV;rw[List.map_append]
theorem zpkZ {w:World} {o:Oper} {a:Act} {K:Act→World→Prop} {Q:Exit→Act→World→Prop} (s x:Operand)
  (ho:o.op=.call { callee:=.builtin .append,args:=#[s,x],argTypes:=#[22, 22] })
  {B:Nat} {r v:Value} {l m:List Lx.Bytes} (hs:a.eval s=r) (hx:a.eval x=v) (hown:OwnS w B r l) (hv:Str w v m r) (hm:0<m.length) (hn:l.length+m.length≤100000000) (hB:B≤w.heap.size)
  (h:∀r' w',OwnS w' B r' (l++m)→Mv w r w' r'→K (a.put o.dst r') w'):o.wp Tryz.prog a w K Q:=by
 obtain⟨i,hi,hz0,hz1,hz2⟩:=info_parts zfxZ
 obtain⟨A,c,rfl,hl⟩:=hv
 obtain⟨ad,rfl⟩:∃ad,A=some ad:=by
  cases m with
  | nil=>simp at hm
  | cons u m=>obtain⟨g,off,h,-⟩:=hl 0 _ (by simp[strsV];rfl);exact⟨_,h⟩
 refine zdeZ s x 22 ho B 9 i _ 1 16 Tryz.underlying22 hi hz0 hz1 hz2 rfl (by decide) r l.length (strsV l) hs hown ad m.length c (strsV m) hx (by unfold strsV;simp) ?_ (zfiZ m) (by unfold maxLen;omega) (by omega) hB ?_
 ·intro j u hj
  obtain⟨g,off,hA,hc,-⟩:=hl j u hj
  injection hA with hA
  subst hA
  rw[zceZ]
  exact hc
 ·intro v' w' hown' hg H0
  refine h v' w' ?_ ⟨hg,fun k hk=>?_⟩
  ·unfold OwnS
   rw[zfrZ,List.length_append]
   exact hown'
  ·rcases H0 with h | h
   ·exact .inl (h.symm.trans hk)
   ·right
    rw[h]at hk
    injection hk with hk
    omega
theorem zpZ {w:World} {ops:Array Oper} {rest:List Oper} {o:Oper} {a:Act} {Q:Exit→Act→World→Prop} (hgd:o.guard=none) (s x:Operand)
  (ho:o.op=.call { callee:=.builtin .append,args:=#[s,x],argTypes:=#[22, 22] })
  {B:Nat} {r v:Value} {l m:List Lx.Bytes} (hs:a.eval s=r) (hx:a.eval x=v) (hown:OwnS w B r l) (hv:Str w v m r) (hm:0<m.length) (hn:l.length+m.length≤100000000) (hB:B≤w.heap.size)
  (h:∀r' w',OwnS w' B r' (l++m)→Mv w r w' r'→wpList Tryz.prog ops Q rest (a.put o.dst r') w'):wpList Tryz.prog ops Q (o::rest) a w:=
 wpList_plain hgd fun K hK=>zpkZ s x ho hs hx hown hv hm hn hB fun A c h2 h3=>hK _ _ (h A c h2 h3)
def RowI (B:Nat) (W:World) (R0:Value) (Ls:Nat→List Lx.Bytes):Nat→World→Value→Prop:=fun k w r=>Below B W w∧OwnS w B r (Ls k)∧(k=0→r=R0)
def RowM:World→Value→Nat→World→Value→Nat→Prop:=fun w r k w' r' k'=>Mv w r w' r'∧k≤k'∧(k'=k→r'=r)
def AppF (j:Nat):Value→World→Value→Nat→Prop:=fun x _ r k=>j+1≤k∧(k=j+1→r=x)
def StrF (m:List Lx.Bytes):Value→World→Value→Nat→Prop:=fun x w r _=>Str w x m r
def IsF (v:Value):Value→World→Value→Nat→Prop:=fun x _ _ _=>x=v
theorem IsF.stays {M:World→Value→Nat→World→Value→Nat→Prop} {v:Value} : Stays M (IsF v):=fun _ _ _ _ _ _ _ _ h=>h
theorem AppF.stays {j:Nat} : Stays RowM (AppF j):=fun x w r k w' r' k' hm h=>by
 obtain⟨-,h2,h3⟩:=hm
 refine⟨by have:=h.1;omega,fun e=>?_⟩
 have hk:k'=k:=by have:=h.1;omega
 rw[h3 hk]
 exact h.2 (by omega)
theorem StrF.stays {m:List Lx.Bytes} : Stays RowM (StrF m):=fun x w r k w' r' k' hm h=>Str.mv h hm.1
theorem RowM.of_below {w w':World} {r:Value} {k:Nat} (h:Below w.heap.size w w'):RowM w r k w' r k:=⟨Mv.of_below r h,Nat.le_refl _,fun _=>rfl⟩
theorem RowM.refl {w:World} {r:Value} {k:Nat} : RowM w r k w r k:=⟨Mv.refl w r,Nat.le_refl _,fun _=>rfl⟩
theorem RowM.first {w w':World} {r r':Value} {l:List Lx.Bytes} (h:Below w.heap.size w w') (ho:OwnS w' w.heap.size r' l):RowM w r 0 w' r' 1:=⟨Mv.first h fun k hk=>(ho.lt k hk).1,by omega,fun e=>by omega⟩
theorem RowI.first {B:Nat} {W w w':World} {R0 r':Value} {Ls:Nat→List Lx.Bytes} {l:List Lx.Bytes} (h:Below B W w) (hB:B≤W.heap.size) (hb:Below w.heap.size w w') (ho:OwnS w' w.heap.size r' l) (hl:Ls 1=l):RowI B W R0 Ls 1 w' r':=
 ⟨h.trans (hb.mono (Nat.le_trans hB h.size)),by rw[hl];exact ho.base_le (Nat.le_trans hB h.size),fun e=>by omega⟩
theorem AppF.first {x:Value} {w:World} : AppF 0 x w x 1:=⟨Nat.le_refl _,fun _=>rfl⟩
theorem Str.older {B:Nat} {W w:World} {v r:Value} {m:List Lx.Bytes} (h:StrRow W v m) (he:W.heap.size=B) (hb:Below B W w) (hr:∀k,r.ownBlock=some k→B≤k):Str w v m r:=by
 subst he
 obtain⟨A,c,rfl,hl⟩:=id h
 refine⟨A,c,rfl,fun j u hj=>?_⟩
 obtain⟨g,off,hA,hc⟩:=h.cells.2 j u hj
 have hg:=World.block_lt_of_cell? W ⟨g,off+j,none⟩ hc
 exact⟨g,off,hA,(World.cell?_of_block (hb.block g hg)).trans hc,fun e=>absurd hg (Nat.not_lt.2 (hr g e))⟩
theorem RowI.below {B:Nat} {W w w':World} {R0 r:Value} {Ls:Nat→List Lx.Bytes} {k:Nat} (h:RowI B W R0 Ls k w r) (hB:B≤W.heap.size) (hb:Below w.heap.size w w'):RowI B W R0 Ls k w' r:=
 ⟨h.1.trans (hb.mono (Nat.le_trans hB h.1.size)),h.2.1.below hb,h.2.2⟩
theorem zmZ {Fs:List (Value→World→Value→Nat→Prop)} {j:Nat} {f:Value→World→Value→Nat→Prop} (h:nth Fs j=f) {x:Value} {w:World} {r:Value} {k:Nat} (hh:nth Fs j x w r k):f x w r k:=by rw[h]at hh;exact hh
theorem zuZ {Fs:List (Value→World→Value→Nat→Prop)} {j:Nat} {f:Value→World→Value→Nat→Prop} (h:nth Fs j=f) {x:Value} {w:World} {r:Value} {k:Nat} (hh:f x w r k):nth Fs j x w r k:=by rw[h];exact hh
theorem Str.arr {w:World} {g:Nat} {m:List Lx.Bytes} {r:Value} {c:Nat} {t:TypeId} {fr:Nat×Nat} {cs:Array Value} (h:w.heap[g]? =some (.cells cs t fr)) (hcs:cs.toList=strsV m) (hr:∀k,r.ownBlock=some k→k<g):Str w (.slice (some ⟨g,0,none⟩) m.length c) m r:=by
 refine⟨_,c,rfl,fun j u hj=>⟨g,0,rfl,?_,fun e=>by have:=hr g e;omega⟩⟩
 rw[Nat.zero_add,zdZ h,←Array.getElem?_toList,hcs]
 exact hj
theorem OwnS.arr {w:World} {g B:Nat} {l:List Lx.Bytes} {cs:Array Value} (h:w.heap[g]? =some (.cells cs 9 (0,0))) (hcs:cs.toList=strsV l) (hm:l.length≤maxLen) (hb:B≤g):OwnS w B (.slice (some ⟨g,0,none⟩) l.length l.length) l:=by
 refine⟨by simp[strsV],.inr ⟨g,l.length,cs,rfl,hb,h,Nat.le_refl _,hm,?_,?_⟩⟩
 ·rw[←Array.length_toList,hcs];simp[strsV]
 ·rw[hcs];exact List.take_of_length_le (by simp[strsV])
theorem zgsZ {apps:List Nat} {i k:Nat} (h:apps.contains i=false):nextK apps i k=k:=by unfold nextK;rw[h];rfl
theorem zdyZ {apps:List Nat} {i k:Nat} (h:apps.contains i=true):nextK apps i k=k+1:=by unfold nextK;rw[h];rfl
attribute [local go_sem] opWp zbaZ zbcZ zbbZ
section
variable {P:Program} {ops:Array Oper} {Q:Exit→Act→World→Prop} {a:Act} {apps:List Nat} {I:Nat→World→Value→Prop} {M:World→Value→Nat→World→Value→Nat→Prop} {Fs:List (Value→World→Value→Nat→Prop)} {i:Nat} {o:Oper}
theorem OpOk.plain (hi:apps.contains i=false) (hg:o.guard=none)
  (h:∀(ρ:Operand→Value) (u:Nat→Value) (L:Nat→Prop) (w:World) (r:Value) (k:Nat),
   (∀d j,slotAt ops.toList j=some d→ρ (.tmp d)=u j)→(∀d,(slots ops.toList).contains d=false→ρ (.tmp d)=a.eval (.tmp d))→(∀v,ρ (.const v)=v)→(∀g,ρ (.global g)=.pointer (some ⟨g,0,none⟩))→(∀f,ρ (.func f)=.func (.func f) #[] #[])→
   (∀j,edge ops.toList i j=true→L j)→(∀j j',edge ops.toList j j'=true→L j→L j')→¬L i→
   (∀j,L j→nth Fs j (u j) w r k)→(∀d j,slotAt ops.toList j=some d→¬L j→u j=a.eval (.tmp d))→(∀j e,apps[e]? =some j→(L j↔e<k))→I k w r→
   ∀K:Value→World→Prop,Hid (∀x w' r',M w r k w' r' k→I k w' r'→nth Fs i x w' r' k→K x w')→opWp P o ρ w K):OpOk P Q ops a apps I M (nth Fs) i o:=by
 intro ρ u L w r k h1 h2 h3 h4 h5 h6 h7 h8 h9 H1 H0 H2 K hK
 rw[zgsZ hi]at hK
 unfold guarded
 rw[hg]
 exact h ρ u L w r k h1 h2 h3 h4 h5 h6 h7 h8 h9 H1 H0 H2 K hK
theorem OpOk.guard (hi:apps.contains i=false) {g:Nat} {b:Bool} (hg:o.guard=some (g,b)) (hgs:(slotAt ops.toList g).isSome=true)
  (h:∀(ρ:Operand→Value) (u:Nat→Value) (L:Nat→Prop) (w:World) (r:Value) (k:Nat),
   (∀d j,slotAt ops.toList j=some d→ρ (.tmp d)=u j)→(∀d,(slots ops.toList).contains d=false→ρ (.tmp d)=a.eval (.tmp d))→(∀v,ρ (.const v)=v)→(∀g,ρ (.global g)=.pointer (some ⟨g,0,none⟩))→(∀f,ρ (.func f)=.func (.func f) #[] #[])→
   (∀j,edge ops.toList i j=true→L j)→(∀j j',edge ops.toList j j'=true→L j→L j')→¬L i→
   (∀j,L j→nth Fs j (u j) w r k)→(∀d j,slotAt ops.toList j=some d→¬L j→u j=a.eval (.tmp d))→(∀j e,apps[e]? =some j→(L j↔e<k))→I k w r→
   ∀K:Value→World→Prop,Hid (∀x w' r',M w r k w' r' k→I k w' r'→nth Fs i x w' r' k→K x w')→∃c,u g=.bool c∧(c=b→opWp P o ρ w K)∧(c≠b→K undef w)):OpOk P Q ops a apps I M (nth Fs) i o:=by
 intro ρ u L w r k h1 h2 h3 h4 h5 h6 h7 h8 h9 H1 H0 H2 K hK
 rw[zgsZ hi]at hK
 unfold guarded
 rw[hg]
 obtain⟨c,hc,h13,h14⟩:=h ρ u L w r k h1 h2 h3 h4 h5 h6 h7 h8 h9 H1 H0 H2 K hK
 refine⟨hgs,fun e=>h13 ?_,fun e=>h14 fun e2=>e ?_⟩
 ·rw[hc]at e
  injection e
 ·rw[hc,e2]
theorem zcjZ {ρ:Operand→Value} {w:World} {K:Value→World→Prop} {fn:Func} {c:Code} {f:FuncId} {xs:Array Operand} {ats:Array TypeId} {args:Array Value}
  (ho:o.op=.call { callee:=.value (.func f),args:=xs,argTypes:=ats }) (hf:P.funcs[f]? =some fn) (hname:(fn.name== "runtime.NumGoroutine")=false) (hb:fn.body=some c)
  (hfun:ρ (.func f)=.func (.func f) #[] #[]) (ha:xs.map ρ=args) (h:Calls P f args w fun e w''=>∃v,e=.returned v∧K v w''):opWp P o ρ w K:=by
 have h1:fn.name≠ "runtime.NumGoroutine" :=by simpa using hname
 unfold opWp execOp
 rw[ho]
 simp[resolve,Deferred.ofValue,invoke,hfun,callFunc,hf,h1,hb,ha,upon2]
 exact h
theorem znZ {ρ:Operand→Value} {w:World} {K:Value→World→Prop} (x:Operand) {v:Value} (ho:o.op=.move x) (hx:ρ x=v) (h:K v w):opWp P o ρ w K:=by
 unfold opWp execOp
 rw[ho]
 show K (ρ x) w
 rw[hx]
 exact h
theorem zluZ {ρ:Operand→Value} {w:World} {K:Value→World→Prop} (x:Operand) {v:Value} (ho:o.op=.assign x) (hx:ρ x=v) (h:K v w):opWp P o ρ w K:=by
 unfold opWp execOp
 rw[ho]
 show K (ρ x) w
 rw[hx]
 exact h
end
section
variable {ops:Array Oper} {Q:Exit→Act→World→Prop} {a:Act} {apps:List Nat} {Fs:List (Value→World→Value→Nat→Prop)} {i:Nat} {o:Oper} {B:Nat} {W:World} {R0:Value} {Ls:Nat→List Lx.Bytes}
theorem zplZ {w:World} {o:Oper} {ρ:Operand→Value} {K:Value→World→Prop} (s x:Operand)
  (ho:o.op=.call { callee:=.builtin .append,args:=#[s,x],argTypes:=#[22, 22] })
  {B:Nat} {r v:Value} {l m:List Lx.Bytes} (hs:ρ s=r) (hx:ρ x=v) (hown:OwnS w B r l) (hv:Str w v m r) (hm:0<m.length) (hn:l.length+m.length≤100000000) (hB:B≤w.heap.size)
  (h:∀r' w',OwnS w' B r' (l++m)→Mv w r w' r'→K r' w'):opWp Tryz.prog o ρ w K:=by
 obtain⟨i,hi,hz0,hz1,hz2⟩:=info_parts zfxZ
 obtain⟨A,c,rfl,hl⟩:=hv
 obtain⟨ad,rfl⟩:∃ad,A=some ad:=by
  cases m with
  | nil=>simp at hm
  | cons u m=>obtain⟨g,off,h,-⟩:=hl 0 _ (by simp[strsV];rfl);exact⟨_,h⟩
 obtain⟨v',w',hr,h2,h3,h4,h5⟩:=run_append_own_at (P:= Tryz.prog) w B 22 o.type 9 i _ 1 16 Tryz.underlying22 hi hz0 hz1 hz2 rfl (by decide) r l.length (strsV l) hown ad m.length c (strsV m) (by unfold strsV;simp) (by
  intro j u hj
  obtain⟨g,off,hA,hc,-⟩:=hl j u hj
  injection hA with hA
  subst hA
  rw[zceZ]
  exact hc) (zfiZ m) (by unfold maxLen;omega) (by omega) hB
 unfold opWp execOp
 simp only[ho,resolve,invoke,builtin,Sem.run_bind,Sem.run_pure,Result.andThen_ok,List.map_toArray,List.map_cons,List.map_nil,hs,hx,hr]
 refine h v' w' ?_ ⟨h3,fun k hk=>?_⟩
 ·unfold OwnS
  rw[zfrZ,List.length_append]
  exact h2
 ·rcases h5 with h | h
  ·exact .inl (h.symm.trans hk)
  ·right
   rw[h]at hk
   injection hk with hk
   omega
theorem OpOk.app {j:Nat} {m:List Lx.Bytes} (s x:Operand) (hi:apps[j]? =some i) (hg:o.guard=none)
  (ho:o.op=.call { callee:=.builtin .append,args:=#[s,x],argTypes:=#[22, 22] }) (hF:nth Fs i=AppF j) (hLs:Ls (j+1)=Ls j++m)
  (hm:0<m.length) (hn:(Ls j).length+m.length≤100000000) (hB:B≤W.heap.size)
  (h:∀(ρ:Operand→Value) (u:Nat→Value) (L:Nat→Prop) (w:World) (r:Value) (k:Nat),
   (∀d j,slotAt ops.toList j=some d→ρ (.tmp d)=u j)→(∀d,(slots ops.toList).contains d=false→ρ (.tmp d)=a.eval (.tmp d))→
   (∀j,edge ops.toList i j=true→L j)→(∀j j',edge ops.toList j j'=true→L j→L j')→
   (∀j,L j→nth Fs j (u j) w r k)→k≤j→RowI B W R0 Ls k w r→(k=j∧ρ s=r)∧∃v,ρ x=v∧Str w v m r):OpOk Tryz.prog Q ops a apps (RowI B W R0 Ls) RowM (nth Fs) i o:=by
 intro ρ u L w r k h1 h2 h3 h4 h5 h6 h7 h8 h9 H3 H2 H0 K hK
 have H1:k≤j:=by
  have:=H2 i j hi
  have H4:¬j<k:=fun hlt=>h8 (this.2 hlt)
  omega
 obtain⟨⟨rfl,hs⟩,v,hv,hst⟩:=h ρ u L w r k h1 h2 h6 h7 h9 H1 H0
 have hc:apps.contains i=true:=by simpa using List.mem_of_getElem? hi
 rw[zdyZ hc]at hK
 unfold guarded
 rw[hg]
 obtain⟨hb,how,h0⟩:=H0
 refine zplZ s x ho hs hv how hst hm hn (Nat.le_trans hB hb.size) fun r' w' ho' hmv=>?_
 refine hK.o _ _ r' ⟨hmv,Nat.le_succ _,fun e=>by omega⟩ ⟨zzZ hb (Nat.le_trans hB hb.size) hmv (fun g hg=>(how.lt g hg).1),by rw[hLs];exact ho',fun e=>by omega⟩ ?_
 rw[hF]
 exact⟨Nat.le_refl _,fun _=>rfl⟩
theorem OpOk.head {l:List Nat} (hi:apps=i::l) (hg:o.guard=none) (hF:nth Fs i=AppF 0)
  (h:∀(ρ:Operand→Value) (u:Nat→Value) (L:Nat→Prop) (w:World) (r:Value) (k:Nat),
   (∀d j,slotAt ops.toList j=some d→ρ (.tmp d)=u j)→(∀d,(slots ops.toList).contains d=false→ρ (.tmp d)=a.eval (.tmp d))→(∀v,ρ (.const v)=v)→(∀g,ρ (.global g)=.pointer (some ⟨g,0,none⟩))→(∀f,ρ (.func f)=.func (.func f) #[] #[])→
   (∀j,edge ops.toList i j=true→L j)→(∀j j',edge ops.toList j j'=true→L j→L j')→¬L i→
   (∀j,L j→nth Fs j (u j) w r k)→(∀d j,slotAt ops.toList j=some d→¬L j→u j=a.eval (.tmp d))→RowI B W R0 Ls 0 w r→
   ∀K:Value→World→Prop,Hid (∀x w' r',RowM w r 0 w' r' 1→RowI B W R0 Ls 1 w' r'→nth Fs i x w' r' 1→K x w')→opWp Tryz.prog o ρ w K):OpOk Tryz.prog Q ops a apps (RowI B W R0 Ls) RowM (nth Fs) i o:=by
 intro ρ u L w r k h1 h2 h3 h4 h5 h6 h7 h8 h9 H1 H0 H2 K hK
 obtain rfl:k=0:=by
  have:=H0 i 0 (by rw[hi];rfl)
  have H3:¬0<k:=fun hlt=>h8 (this.2 hlt)
  omega
 have hc:apps.contains i=true:=by rw[hi];simp
 rw[zdyZ hc]at hK
 unfold guarded
 rw[hg]
 exact h ρ u L w r 0 h1 h2 h3 h4 h5 h6 h7 h8 h9 H1 H2 K hK
end
end Go.Proofs.YtdncljdfmdgdaaaGreatDoor
