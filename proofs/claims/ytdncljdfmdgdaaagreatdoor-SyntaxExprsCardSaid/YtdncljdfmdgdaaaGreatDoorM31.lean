/-
  What an operation finds: short laws for each kind of operation.
-/
import Derived.Test.YtdncljdfmdgdaaaGreatDoorM1
import Derived.Test.YtdncljdfmdgdaaaGreatDoorM30
import Derived.Test.YtdncljdfmdgdaaaGreatDoorM28
import Derived.Test.YtdncljdfmdgdaaaGreatDoorM18
import Derived.Test.YtdncljdfmdgdaaaGreatDoorM14
set_option linter.unusedSimpArgs false
set_option linter.unusedVariables false
set_option maxRecDepth 100000
set_option maxHeartbeats 16000000
namespace Go.Proofs.YtdncljdfmdgdaaaGreatDoor
open Go.RowKit Go.Shelf
def reads (ops:List Oper) (i d q:Nat):Bool:=(slotAt ops q==some d)&&edge ops i q
def pathOk (ops:List Oper):List Nat→Bool
 | x::y::l=>edge ops x y&&pathOk ops (y::l)
 | _=>true
def behind (ops:List Oper) (i d q:Nat) (l:List Nat):Bool:=(slotAt ops q==some d)&&pathOk ops (q::l)&&((q::l).getLast? ==some i)
structure Ev (ops:List Oper) (a:Act) (Fs:List (Value→World→Value→Nat→Prop)) (i:Nat) (ρ:Operand→Value) (w:World) (r:Value) (k:Nat):Prop where
 x:∀(d q:Nat) {f:Value→World→Value→Nat→Prop},reads ops i d q=true→nth Fs q=f→f (ρ (.tmp d)) w r k
 n:∀d,(slots ops).contains d=false→ρ (.tmp d)=a.eval (.tmp d)
 z:∀(d q:Nat) (l:List Nat),behind ops i d q l=true→ρ (.tmp d)=a.eval (.tmp d)
 c:∀v,ρ (.const v)=v
 g:∀g,ρ (.global g)=.pointer (some ⟨g,0,none⟩)
 f:∀f,ρ (.func f)=.func (.func f) #[] #[]
theorem Ev.e {ops:List Oper} {a:Act} {Fs:List (Value→World→Value→Nat→Prop)} {i:Nat} {ρ:Operand→Value} {w:World} {r:Value} {k:Nat} (E:Ev ops a Fs i ρ w r k) (d q:Nat) {v:Value} (h:reads ops i d q=true) (hF:nth Fs q=IsF v):ρ (.tmp d)=v:=E.x d q h hF
theorem zbuZ {l Fs:List (Value→World→Value→Nat→Prop)} {j:Nat} {f:Value→World→Value→Nat→Prop} (h:l=Fs) (hf:nth l j=f):nth Fs j=f:=by rw[←h];exact hf
theorem zmmZ {ops:List Oper} {L:Nat→Prop} (hC:∀j j',edge ops j j'=true→L j→L j'):∀(l:List Nat) (q i:Nat),pathOk ops (q::l)=true→(q::l).getLast? =some i→L q→L i
 | [],q,i,_,h,hq=>by simp at h;rw[←h];exact hq
 | y::l,q,i,hp,h,hq=>by
  rw[pathOk,Bool.and_eq_true]at hp
  exact zmmZ hC l y i hp.2 (by simpa using h) (hC q y hp.1 hq)
section
variable {P:Program} {ops:Array Oper} {Q:Exit→Act→World→Prop} {a:Act} {apps:List Nat} {I:Nat→World→Value→Prop} {M:World→Value→Nat→World→Value→Nat→Prop} {Fs:List (Value→World→Value→Nat→Prop)} {i:Nat} {o:Oper}
theorem Ev.mk' {ρ:Operand→Value} {u:Nat→Value} {L:Nat→Prop} {w:World} {r:Value} {k:Nat}
  (h1:∀d j,slotAt ops.toList j=some d→ρ (.tmp d)=u j) (h2:∀d,(slots ops.toList).contains d=false→ρ (.tmp d)=a.eval (.tmp d)) (h3:∀v,ρ (.const v)=v) (h4:∀g,ρ (.global g)=.pointer (some ⟨g,0,none⟩)) (h5:∀f,ρ (.func f)=.func (.func f) #[] #[])
  (h6:∀j,edge ops.toList i j=true→L j) (h7:∀j j',edge ops.toList j j'=true→L j→L j') (h8:¬L i)
  (h9:∀j,L j→nth Fs j (u j) w r k) (h10:∀d j,slotAt ops.toList j=some d→¬L j→u j=a.eval (.tmp d)):Ev ops.toList a Fs i ρ w r k:=by
 refine⟨fun d q f h hf=>?_,h2,fun d q l h=>?_,h3,h4,h5⟩
 ·unfold reads at h
  simp only[Bool.and_eq_true,beq_iff_eq]at h
  rw[h1 d q h.1,←hf]
  exact h9 q (h6 q h.2)
 ·unfold behind at h
  simp only[Bool.and_eq_true,beq_iff_eq]at h
  rw[h1 d q h.1.1]
  exact h10 d q h.1.1 fun hq=>h8 (zmmZ h7 l q i h.1.2 h.2 hq)
theorem OpOk.val {v:Value} (hi:apps.contains i=false) (hg:o.guard=none) (hF:nth Fs i=IsF v) (hM:∀w r k,M w r k w r k)
  (h:∀(ρ:Operand→Value) (w:World) (r:Value) (k:Nat),Ev ops.toList a Fs i ρ w r k→I k w r→∀K:Value→World→Prop,K v w→opWp P o ρ w K):OpOk P Q ops a apps I M (nth Fs) i o:=
 OpOk.plain hi hg fun ρ u L w r k h1 h2 h3 h4 h5 h6 h7 h8 h9 h10 h11 h12 K hK=>h ρ w r k (Ev.mk' h1 h2 h3 h4 h5 h6 h7 h8 h9 h10) h12 K (hK.o v w r (hM w r k) h12 (zuZ hF rfl))
theorem OpOk.mov {v:Value} {d:Nat} (hi:apps.contains i=false) (hg:o.guard=none) (hF:nth Fs i=IsF v) (hM:∀w r k,M w r k w r k) (ho:o.op=.move (.tmp d))
  (h:∀(ρ:Operand→Value) (w:World) (r:Value) (k:Nat),Ev ops.toList a Fs i ρ w r k→ρ (.tmp d)=v):OpOk P Q ops a apps I M (nth Fs) i o:=
 OpOk.val hi hg hF hM fun ρ w r k E _ K hK=>znZ (.tmp d) ho (h ρ w r k E) hK
end
section
variable {ops:Array Oper} {Q:Exit→Act→World→Prop} {a:Act} {apps:List Nat} {Fs:List (Value→World→Value→Nat→Prop)} {i:Nat} {o:Oper} {B:Nat} {W:World} {R0:Value} {Ls:Nat→List Lx.Bytes}
theorem RowM.rf (w:World) (r:Value) (k:Nat):RowM w r k w r k:=RowM.refl
theorem OpOk.asg {j d q:Nat} (hi:apps.contains i=false) (hg:o.guard=none) (hF:nth Fs i=AppF j) (hq:nth Fs q=AppF j) (ho:o.op=.assign (.tmp d)) (hr:reads ops.toList i d q=true):OpOk Tryz.prog Q ops a apps (RowI B W R0 Ls) RowM (nth Fs) i o:=
 OpOk.plain hi hg fun ρ u L w r k h1 h2 h3 h4 h5 h6 h7 h8 h9 h10 h11 h12 K hK=>zluZ (.tmp d) ho rfl (hK.o _ _ _ RowM.refl h12 (zuZ hF ((Ev.mk' h1 h2 h3 h4 h5 h6 h7 h8 h9 h10).x d q hr hq)))
theorem OpOk.one {m:List Lx.Bytes} (hi:apps.contains i=false) (hg:o.guard=none) (hF:nth Fs i=StrF m) (hB:B≤W.heap.size)
  (h:∀(ρ:Operand→Value) (w:World) (r:Value) (k:Nat),Ev ops.toList a Fs i ρ w r k→RowI B W R0 Ls k w r→∀K:Value→World→Prop,(∀cs:Array Value,cs.toList=strsV m→K (.slice (some ⟨w.heap.size,0,none⟩) m.length m.length) (w.alloc (.cells cs 9)))→opWp Tryz.prog o ρ w K):OpOk Tryz.prog Q ops a apps (RowI B W R0 Ls) RowM (nth Fs) i o:=
 OpOk.plain hi hg fun ρ u L w r k h1 h2 h3 h4 h5 h6 h7 h8 h9 h10 h11 h12 K hK=>h ρ w r k (Ev.mk' h1 h2 h3 h4 h5 h6 h7 h8 h9 h10) h12 K fun cs hcs=>
  hK.o _ _ _ (RowM.of_below ((Below.refl _ _).alloc (Nat.le_refl _) _)) (RowI.below h12 hB ((Below.refl _ _).alloc (Nat.le_refl _) _)) (zuZ hF (Str.arr (m:=m) (heap_alloc_new w _) hcs fun g hg=>(h12.2.1.lt g hg).2))
theorem OpOk.call {m:List Lx.Bytes} {fn:Func} {c:Code} {f:FuncId} {xs:Array Operand} {ats:Array TypeId} {args:Array Value} (hi:apps.contains i=false) (hg:o.guard=none) (hF:nth Fs i=StrF m) (hB:B≤W.heap.size)
  (ho:o.op=.call { callee:=.value (.func f),args:=xs,argTypes:=ats }) (hf : Tryz.prog.funcs[f]? =some fn) (hname:(fn.name== "runtime.NumGoroutine")=false) (hb:fn.body=some c)
  (ha:∀(ρ:Operand→Value) (w:World) (r:Value) (k:Nat),Ev ops.toList a Fs i ρ w r k→xs.map ρ=args)
  (h:∀w,Below B W w→Calls Tryz.prog f args w fun e w'=>∃u,e=.returned u∧OwnS w' w.heap.size u m∧Below w.heap.size w w'):OpOk Tryz.prog Q ops a apps (RowI B W R0 Ls) RowM (nth Fs) i o:=
 OpOk.plain hi hg fun ρ u L w r k h1 h2 h3 h4 h5 h6 h7 h8 h9 h10 h11 h12 K hK=>zcjZ ho hf hname hb (h5 f) (ha ρ w r k (Ev.mk' h1 h2 h3 h4 h5 h6 h7 h8 h9 h10)) ((h w h12.1).mono fun e w' ⟨v,he,ho5,hb5⟩=>
  ⟨v,he,hK.o _ _ _ (RowM.of_below hb5) (RowI.below h12 hB hb5) (zuZ hF (Str.of_own ho5 fun g hg=>(h12.2.1.lt g hg).2))⟩)
theorem OpOk.pcall {v:Value} {fn:Func} {c:Code} {f:FuncId} {xs:Array Operand} {ats:Array TypeId} {args:Array Value} (hi:apps.contains i=false) (hg:o.guard=none) (hF:nth Fs i=IsF v) (hB:B≤W.heap.size)
  (ho:o.op=.call { callee:=.value (.func f),args:=xs,argTypes:=ats }) (hf : Tryz.prog.funcs[f]? =some fn) (hname:(fn.name== "runtime.NumGoroutine")=false) (hb:fn.body=some c)
  (ha:∀(ρ:Operand→Value) (w:World) (r:Value) (k:Nat),Ev ops.toList a Fs i ρ w r k→xs.map ρ=args)
  (h:∀w,Below B W w→Calls Tryz.prog f args w fun e w'=>e=.returned v∧Below w.heap.size w w'):OpOk Tryz.prog Q ops a apps (RowI B W R0 Ls) RowM (nth Fs) i o:=
 OpOk.plain hi hg fun ρ u L w r k h1 h2 h3 h4 h5 h6 h7 h8 h9 h10 h11 h12 K hK=>zcjZ ho hf hname hb (h5 f) (ha ρ w r k (Ev.mk' h1 h2 h3 h4 h5 h6 h7 h8 h9 h10)) ((h w h12.1).mono fun e w' ⟨he,hb5⟩=>
  ⟨v,he,hK.o _ _ _ (RowM.of_below hb5) (RowI.below h12 hB hb5) (zuZ hF rfl)⟩)
theorem OpOk.hcall {l:List Nat} {m:List Lx.Bytes} {fn:Func} {c:Code} {f:FuncId} {xs:Array Operand} {ats:Array TypeId} {args:Array Value} (hi:apps=i::l) (hg:o.guard=none) (hF:nth Fs i=AppF 0) (hB:B≤W.heap.size) (hL:Ls 1=m)
  (ho:o.op=.call { callee:=.value (.func f),args:=xs,argTypes:=ats }) (hf : Tryz.prog.funcs[f]? =some fn) (hname:(fn.name== "runtime.NumGoroutine")=false) (hb:fn.body=some c)
  (ha:∀(ρ:Operand→Value) (w:World) (r:Value) (k:Nat),Ev ops.toList a Fs i ρ w r k→xs.map ρ=args)
  (h:∀w,Below B W w→Calls Tryz.prog f args w fun e w'=>∃u,e=.returned u∧OwnS w' w.heap.size u m∧Below w.heap.size w w'):OpOk Tryz.prog Q ops a apps (RowI B W R0 Ls) RowM (nth Fs) i o:=by
 refine OpOk.head hi hg hF fun ρ u L w r k h1 h2 h3 h4 h5 h6 h7 h8 h9 h10 h12 K hK=>zcjZ ho hf hname hb (h5 f) (ha ρ w r k (Ev.mk' h1 h2 h3 h4 h5 h6 h7 h8 h9 h10)) ((h w h12.1).mono fun e w' ⟨v,he,ho5,hb5⟩=>⟨v,he,?_⟩)
 exact hK.o _ _ _ (RowM.first hb5 ho5) (RowI.first h12.1 hB hb5 ho5 hL) (zuZ hF AppF.first)
theorem OpOk.hone {l:List Nat} {m:List Lx.Bytes} (hi:apps=i::l) (hg:o.guard=none) (hF:nth Fs i=AppF 0) (hB:B≤W.heap.size) (hL:Ls 1=m) (hm:m.length≤maxLen)
  (h:∀(ρ:Operand→Value) (w:World) (r:Value) (k:Nat),Ev ops.toList a Fs i ρ w r k→RowI B W R0 Ls 0 w r→∀K:Value→World→Prop,(∀cs:Array Value,cs.toList=strsV m→K (.slice (some ⟨w.heap.size,0,none⟩) m.length m.length) (w.alloc (.cells cs 9)))→opWp Tryz.prog o ρ w K):OpOk Tryz.prog Q ops a apps (RowI B W R0 Ls) RowM (nth Fs) i o:=by
 refine OpOk.head hi hg hF fun ρ u L w r k h1 h2 h3 h4 h5 h6 h7 h8 h9 h10 h12 K hK=>h ρ w r k (Ev.mk' h1 h2 h3 h4 h5 h6 h7 h8 h9 h10) h12 K fun cs hcs=>?_
 have H0:OwnS (w.alloc (.cells cs 9)) w.heap.size (.slice (some ⟨w.heap.size,0,none⟩) m.length m.length) m:=OwnS.arr (heap_alloc_new w _) hcs hm (Nat.le_refl _)
 exact hK.o _ _ _ (RowM.first ((Below.refl _ _).alloc (Nat.le_refl _) _) H0) (RowI.first h12.1 hB ((Below.refl _ _).alloc (Nat.le_refl _) _) H0 hL) (zuZ hF AppF.first)
theorem OpOk.rowv {m:List Lx.Bytes} {d:Nat} {v:Value} (hi:apps.contains i=false) (hg:o.guard=none) (hF:nth Fs i=StrF m) (ho:o.op=.move (.tmp d)) (hv:StrRow W v m) (he:W.heap.size=B)
  (h:∀(ρ:Operand→Value) (w:World) (r:Value) (k:Nat),Ev ops.toList a Fs i ρ w r k→ρ (.tmp d)=v):OpOk Tryz.prog Q ops a apps (RowI B W R0 Ls) RowM (nth Fs) i o:=
 OpOk.plain hi hg fun ρ u L w r k h1 h2 h3 h4 h5 h6 h7 h8 h9 h10 h11 h12 K hK=>znZ (.tmp d) ho (h ρ w r k (Ev.mk' h1 h2 h3 h4 h5 h6 h7 h8 h9 h10)) (hK.o _ _ _ RowM.refl h12 (zuZ hF (Str.older hv he h12.1 fun g hg=>(h12.2.1.lt g hg).1)))
theorem OpOk.app0 {m:List Lx.Bytes} {s x q q0:Nat} {l:List Nat} (hi:apps=i::l) (hg:o.guard=none)
  (ho:o.op=.call { callee:=.builtin .append,args:=#[.tmp s,.tmp x],argTypes:=#[22, 22] }) (hF:nth Fs i=AppF 0) {l0 l1:List Lx.Bytes} (h0:Ls 0=l0) (h1:Ls 1=l1) (hLs:l1=l0++m)
  (hm:0<m.length) (hn:l0.length+m.length≤100000000) (hB:B≤W.heap.size) (hq0:nth Fs q0=IsF R0) (hr0:reads ops.toList i s q0=true) (hq:nth Fs q=StrF m) (hr:reads ops.toList i x q=true):OpOk Tryz.prog Q ops a apps (RowI B W R0 Ls) RowM (nth Fs) i o:=by
 refine OpOk.app (j:=0) (m:=m) (.tmp s) (.tmp x) (by rw[hi];rfl) hg ho hF (by rw[h1,h0,hLs]) hm (by rw[h0];exact hn) hB fun ρ u L w r k hs hs0 hL hC hfc hk hI=>?_
 obtain rfl:k=0:=by omega
 unfold reads at hr hr0
 simp only[Bool.and_eq_true,beq_iff_eq]at hr hr0
 have e1:=hfc q0 (hL q0 hr0.2)
 have e2:=hfc q (hL q hr.2)
 rw[hq0]at e1
 rw[hq]at e2
 exact⟨⟨rfl,(hs s q0 hr0.1).trans (Eq.trans e1 (hI.2.2 rfl).symm)⟩,_,hs x q hr.1,e2⟩
theorem OpOk.appN {j:Nat} {m:List Lx.Bytes} {s x q p:Nat} (hi:apps[j+1]? =some i) (hg:o.guard=none)
  (ho:o.op=.call { callee:=.builtin .append,args:=#[.tmp s,.tmp x],argTypes:=#[22, 22] }) (hF:nth Fs i=AppF (j+1)) {l0 l1:List Lx.Bytes} (h0:Ls (j+1)=l0) (h1:Ls (j+2)=l1) (hLs:l1=l0++m)
  (hm:0<m.length) (hn:l0.length+m.length≤100000000) (hB:B≤W.heap.size) (hp:nth Fs p=AppF j) (hrp:reads ops.toList i s p=true) (hq:nth Fs q=StrF m) (hr:reads ops.toList i x q=true):OpOk Tryz.prog Q ops a apps (RowI B W R0 Ls) RowM (nth Fs) i o:=by
 refine OpOk.app (j:=j+1) (m:=m) (.tmp s) (.tmp x) hi hg ho hF (by rw[h1,h0,hLs]) hm (by rw[h0];exact hn) hB fun ρ u L w r k hs hs0 hL hC hfc hk hI=>?_
 unfold reads at hr hrp
 simp only[Bool.and_eq_true,beq_iff_eq]at hr hrp
 have e1:=hfc p (hL p hrp.2)
 have e2:=hfc q (hL q hr.2)
 rw[hp]at e1
 rw[hq]at e2
 obtain rfl:k=j+1:=Nat.le_antisymm hk e1.1
 exact⟨⟨rfl,(hs s p hrp.1).trans (e1.2 rfl).symm⟩,_,hs x q hr.1,e2⟩
end
end Go.Proofs.YtdncljdfmdgdaaaGreatDoor
namespace Go.Proofs.YtdncljdfmdgdaaaGreatDoor
open Go.RowKit Go.Shelf
attribute [local go_sem] opWp zbaZ zbcZ zbbZ
def Sx.pre:Nat→List Sx.Ty→List Lx.Bytes
 | _,[]=>[]
 | i,t::l=>(if 0<i then [[44]]else [])++Sx.typ t++Sx.pre (i+1) l
theorem Sx.pre_append (l:List Sx.Ty):∀(i:Nat) (m:List Sx.Ty),Sx.pre i (l++m)=Sx.pre i l++Sx.pre (i+l.length) m:=by
 induction l with
 | nil=>intro i m;simp[Sx.pre]
 | cons t l ih=>
  intro i m
  rw[List.cons_append,Sx.pre,Sx.pre,ih,List.length_cons,show i+1+l.length=i+(l.length+1)by omega]
  simp
theorem Sx.pre_take {l:List Sx.Ty} {m:Nat} (h:m<l.length):Sx.pre 0 (l.take (m+1))=Sx.pre 0 (l.take m)++(if 0<m then [[44]]else [])++Sx.typ l[m]:=by
 rw[List.take_succ_eq_append_getElem h,Sx.pre_append,Sx.pre,Sx.pre,List.append_nil,Nat.zero_add,List.length_take,Nat.min_eq_left (Nat.le_of_lt h),List.append_assoc]
theorem Sx.params_last (t:Sx.Ty) (l:List Sx.Ty):∀i,Sx.params i (l++[t])=Sx.pre i l++([[41]]++Sx.typ t):=by
 induction l with
 | nil=>intro i;simp[Sx.params,Sx.pre]
 | cons u l ih=>
  intro i
  rw[List.cons_append,Sx.params,Sx.pre,ih]
  simp
theorem Sx.pre_len:∀(l:List Sx.Ty) (i:Nat),(Sx.pre i l).length≤8 * Sx.sizeL l
 | [],i=>by simp[Sx.pre]
 | t::l,i=>by
  have h1:=Sx.pre_len l (i+1)
  have h2:=Sx.typ_len t
  rw[Sx.pre,Sx.sizeL]
  simp only[List.length_append]
  split <;> simp <;> omega
theorem OwnS.one {w:World} {g B:Nat} {s:Lx.Bytes} (h:w.heap[g]? =some (.cells #[.string ⟨s.toArray⟩] 9 (0,0))) (hb:B≤g):OwnS w B (.slice (some ⟨g,0,none⟩) 1 1) [s]:=
 ⟨rfl,.inr ⟨g,1,_,rfl,hb,h,Nat.le_refl _,by unfold maxLen;omega,rfl,rfl⟩⟩
def TypedOk (n:Nat):Prop:=∀(t:Sx.Ty),Sx.size t≤n→(∃d,Sx.rightT NM d t=true)→∀(v:Value) (W:World),IsTy W v t→
 Calls Tryz.prog 28 #[v] W fun e W'=>∃u,e=.returned u∧OwnS W' W.heap.size u (Sx.typ t)∧Below W.heap.size W W'
theorem zmnZ (n:Nat) (hn:n≤1000000) (ih:TypedOk n) (ps:List Sx.Ty) (hne:0<ps.length) (hsz:Sx.sizeL ps≤n) (hrt:∀t∈ps,∃d,Sx.rightT NM d t=true) (hty1:∀t∈ps,0<(Sx.typ t).length)
  (v:Value) (W:World) (hv:TyRow W v ps) :
  Calls Tryz.prog 69 #[v] W fun e W'=>∃u,e=.returned u∧OwnS W' W.heap.size u ([40]::Sx.params 0 ps)∧Below W.heap.size W W':=by
 obtain⟨Ap,cp,rfl,-,-⟩:=id hv
 obtain⟨k,hk⟩:=zE (ps.length)
 rw[hk]at hv ⊢
 have Je:=Sx.length_size ps
 have k0:(0:Int)≤(k:Int):=by omega
 have k1:(k:Int)≤1000000:=by omega
 have k2:(1:Int)≤(k:Int):=by omega
 obtain⟨B,hB⟩:=zE (W.heap.size)
 obtain⟨W1,hW1⟩:=zE (W.alloc (.cells #[.string ⟨#[40]⟩] 9))
 have Hz:Below B W W1:=by rw[←hW1,←hB];exact(Below.refl _ _).alloc (Nat.le_refl _) _
 have Hu:OwnS W1 B (.slice (some ⟨B,0,none⟩) 1 1) [[40]]:=by rw[←hW1,←hB];exact OwnS.one (heap_alloc_new W _) (Nat.le_refl _)
 have Hk:=zh ih
 have Jb:=zh hrt
 have J9:=zh hty1
 have HP:=zh hv
 have HK:=zh hk
 have J5:=zh (show Sx.sizeL ps≤n∧n≤1000000 from⟨hsz,hn⟩)
 have HB:=zh hB
 have Jd:=zh Hz
 have J7:=zh Hu
 have Jf:=zh hne
 clear ih hrt hty1 hv hk hsz hn Hz Hu Je hne
 go_enter Tryz.func69, Tryz.ntmps69
 go_wp2_with fail
 go_loopg [3,4] k (fun i v3 v4 wr=>∃(m:Nat) (A5:Option Addr) (n5 c5:Nat),i=k-m∧v3=.slice A5 n5 c5∧v4=.int .i64 (m:Nat)∧m+1≤k∧OwnS wr B (.slice A5 n5 c5) ([40]::Sx.pre 0 (ps.take m))∧Below B W wr)
 case atStart=>exact⟨0,some ⟨B,0,none⟩,1,1,rfl,rfl,rfl,by omega,J7.o,Jd.o⟩
 case round=>
  obtain⟨m,A5,n5,c5,hi,rfl,rfl,hm,ho,hb⟩:=hrel
  have HI:=zh hi
  have HO:=zh ho
  have Hc:=zh hb
  have m0:(0:Int)≤(m:Int):=by omega
  have m1:(m:Int)≤1000000:=by omega
  have Ha:m<ps.length:=by have:=HK.o;omega
  have H3:=zh (show([40]::Sx.pre 0 (ps.take m)).length≤10000000 by
   have h1:=Sx.pre_len (ps.take m) 0
   have h2:=Sx.sizeL_take_le ps m
   have h3:=J5.o
   simp only[List.length_cons]
   omega)
  clear hi ho hb
  obtain⟨g,off,An1,cn1,Ae1,ce1,Aq,cq,rfl,hty,hc5⟩:=HP.o.spot m Ha
  have Hq:=Sx.pre_take Ha
  have J2:=Sx.size_mem (List.getElem_mem Ha)
  have Ho:=Jb.o _ (List.getElem_mem Ha)
  have Hm:=J9.o _ (List.getElem_mem Ha)
  obtain⟨p,hpe⟩:=zE (ps[m]'Ha)
  rw[hpe]at hty hc5 Hq J2 Ho Hm
  have Hi:=zh hc5
  have Hv:=zh Hq
  have Hn:=zh hty
  have H7:=zh (show Sx.size p≤n∧n≤1000000∧0<(Sx.typ p).length by have:=J5.o;exact⟨by omega,this.2,Hm⟩)
  have Hs:=zh Ho
  have Jg:=zh hpe
  clear hty hc5 Hq J2 Ho Hm
  by_cases hlt:m+1<k
  ·have J1:(m:Int)+1<(k:Int):=by omega
   have Hp:(m:Int)<(k:Int):=by omega
   obtain⟨hg,c0,c1,c2,c3,c4⟩:=Hi.o wr (by rw[HB.o];exact Hc.o)
   clear hpe
   by_cases hz:0<m
   ·have Jc:(0:Int)<(m:Int):=by omega
    have Hd:=zh (show([40]::Sx.pre 0 (ps.take m))++[[44]]++Sx.typ p=[40]::Sx.pre 0 (ps.take (m+1))by rw[Hv.o,if_pos hz];simp)
    clear hz
    obtain⟨wa,hwa⟩:=zE (wr.alloc (.cells #[.string ⟨#[44]⟩] 9))
    have J3:OwnS wa B (.slice A5 n5 c5) ([40]::Sx.pre 0 (ps.take m)):=by rw[←hwa];exact HO.o.below ((Below.refl _ _).alloc (Nat.le_refl _) _)
    have J0:Below B W wa:=by rw[←hwa];exact Hc.o.alloc (by rw[←HB.o];exact Hc.o.size) _
    have Hx:Str wa (.slice (some ⟨wr.heap.size,0,none⟩) 1 1) [[44]] (.slice A5 n5 c5):=by rw[←hwa];exact Str.one (heap_alloc_new wr _) (fun q hq=>(HO.o.lt q hq).2)
    have Hy:=zh J3
    have Hl:=zh J0
    have J6:=zh Hx
    clear J3 J0 Hx
    go_wp2_with (at_builtin;refine zpZ rfl _ _ rfl rfl rfl Hy.o J6.o (by decide) (by have:=H3.o;simp at this ⊢;omega) (by rw[←HB.o];exact Hl.o.size) ?_;intro r5 w5 hO5 J4;(have hB5:=zzZ Hl.o (by rw[←HB.o];exact Hl.o.size) J4 (fun g hg=>(Hy.o.lt g hg).1);clear c0 c1 c2 c3 c4;obtain⟨hg,c0,c1,c2,c3,c4⟩:=Hi.o w5 (by rw[HB.o];exact hB5);have Ht:=zh hO5;have Hr:=zh hB5;clear hO5 hB5 J4))
    have Hg:=Hk.o p H7.o.1 Hs.o _ w5 (IsTy.below (by rw[HB.o];exact Hr.o) _ _ Hn.o)
    refine Hg.mono ?_
    rintro e w6 ⟨u6,rfl,Hh,H9⟩
    have H5:=Str.of_own Hh (fun g hg=>(Ht.o.lt g hg).2)
    have H2:=Ht.o.below H9
    have H4:=Hr.o.trans (H9.mono (by rw[←HB.o];exact Hr.o.size))
    have Hb:=zh H5
    have H6:=zh H2
    have H0:=zh H4
    clear H5 H2 H4 Hh H9 Hg
    go_wp2_with (at_builtin;refine zpZ rfl _ _ rfl rfl rfl H6.o Hb.o H7.o.2.2 (by have:=H3.o;have:=Sx.typ_len p;have:=H7.o;simp at *;omega) (by rw[←HB.o];exact H0.o.size) ?_;intro r7 w7 hO7 He)
    obtain⟨A7,c7,rfl⟩:=hO7.slice
    have hB7:=zzZ H0.o (by rw[←HB.o];exact H0.o.size) He (fun g hg=>(H6.o.lt g hg).1)
    go_roundg (k-(m+1))
    case measure=>have:=HI.o;omega
    case rel=>exact⟨m+1,A7,_,c7,rfl,rfl,by simp,by omega,by rw[←Hd.o];exact hO7,hB7⟩
   ·have Jc:¬(0:Int)<(m:Int):=by omega
    have Hd:=zh (show([40]::Sx.pre 0 (ps.take m))++Sx.typ p=[40]::Sx.pre 0 (ps.take (m+1))by rw[Hv.o,if_neg hz];simp)
    clear hz
    go_wp2_with fail
    have Hg:=Hk.o p H7.o.1 Hs.o _ wr (IsTy.below (by rw[HB.o];exact Hc.o) _ _ Hn.o)
    refine Hg.mono ?_
    rintro e w6 ⟨u6,rfl,Hh,H9⟩
    have H5:=Str.of_own Hh (fun g hg=>(HO.o.lt g hg).2)
    have H2:=HO.o.below H9
    have H4:=Hc.o.trans (H9.mono (by rw[←HB.o];exact Hc.o.size))
    have Hb:=zh H5
    have H6:=zh H2
    have H0:=zh H4
    clear H5 H2 H4 Hh H9 Hg
    go_wp2_with (at_builtin;refine zpZ rfl _ _ rfl rfl rfl H6.o Hb.o H7.o.2.2 (by have:=H3.o;have:=Sx.typ_len p;have:=H7.o;simp at *;omega) (by rw[←HB.o];exact H0.o.size) ?_;intro r7 w7 hO7 He)
    obtain⟨A7,c7,rfl⟩:=hO7.slice
    have hB7:=zzZ H0.o (by rw[←HB.o];exact H0.o.size) He (fun g hg=>(H6.o.lt g hg).1)
    go_roundg (k-(m+1))
    case measure=>have:=HI.o;omega
    case rel=>exact⟨m+1,A7,_,c7,rfl,rfl,by simp,by omega,by rw[←Hd.o];exact hO7,hB7⟩
  ·obtain rfl:k=m+1:=by omega
   have J1:¬(m:Int)+1<((m+1:Nat):Int):=by omega
   have Hf:((m+1:Nat):Int)-1=(m:Int):=by omega
   have Hw:IntKind.i64.wrap (((m+1:Nat):Int)-1)=(m:Int):=by rw[Hf,IntKind.wrap_i64];omega
   have Hp:(m:Int)<((m+1:Nat):Int):=by omega
   have Hj:=zh (show([40]::Sx.pre 0 (ps.take m))++[[41]]++Sx.typ p=[40]::Sx.params 0 ps by
    have h1:ps=ps.take m++[p]:=by
     conv=>lhs;rw[←List.take_append_drop m ps]
     rw[List.drop_eq_getElem_cons Ha,hpe,List.drop_of_length_le (by have:=HK.o;omega)]
    conv=>rhs;rw[h1]
    rw[Sx.params_last]
    simp)
   clear hpe
   go_wp2_with fail
   clear Hf J1 Hw Hp
   have Hw:IntKind.i64.wrap (m:Int)=(m:Int):=by rw[IntKind.wrap_i64];omega
   have Hp:(m:Int)<(m:Int)+1:=by omega
   have hBle:B≤W.heap.size:=by rw[HB.o];exact Nat.le_refl _
   have hB0:Below B W wr.drew:=Hc.o.drew
   have hO0:OwnS wr.drew B (.slice A5 n5 c5) ([40]::Sx.pre 0 (ps.take m)):=HO.o
   obtain⟨Fs,hFs⟩:∃F:List (Value→World→Value→Nat→Prop),[IsF (.slice A5 n5 c5),StrF [[41]],AppF 0,IsF (.slice (some ⟨g,off,none⟩) (m+1) cp),IsF (.slice (some ⟨g,off,none⟩) (m+1) cp),IsF (.int .i64 ((m:Int)+1)),IsF (.int .i64 (m:Int)),IsF (.pointer (some ⟨g,off+m * 5,none⟩)),IsF (.agg #[.int .i64 p.kind,.string ⟨p.name.toArray⟩,.slice An1 p.names.length cn1,.slice Ae1 p.embeds.length ce1,.slice Aq p.parts.length cq]),StrF (Sx.typ p),AppF 1,AppF 1]=F:=⟨_,rfl⟩
   have F0:nth Fs 0=IsF _:=zbuZ hFs rfl
   have F1:nth Fs 1=StrF _:=zbuZ hFs rfl
   have F2:nth Fs 2=AppF 0:=zbuZ hFs rfl
   have F3:nth Fs 3=IsF _:=zbuZ hFs rfl
   have F4:nth Fs 4=IsF _:=zbuZ hFs rfl
   have F5:nth Fs 5=IsF _:=zbuZ hFs rfl
   have F6:nth Fs 6=IsF _:=zbuZ hFs rfl
   have F7:nth Fs 7=IsF _:=zbuZ hFs rfl
   have F8:nth Fs 8=IsF _:=zbuZ hFs rfl
   have F9:nth Fs 9=StrF _:=zbuZ hFs rfl
   have F10:nth Fs 10=AppF 1:=zbuZ hFs rfl
   have F11:nth Fs 11=AppF 1:=zbuZ hFs rfl
   have H8:AllStay RowM Fs:=by rw[←hFs];exact .cons IsF.stays (.cons StrF.stays (.cons AppF.stays (.cons IsF.stays (.cons IsF.stays (.cons IsF.stays (.cons IsF.stays (.cons IsF.stays (.cons IsF.stays (.cons StrF.stays (.cons AppF.stays (.cons AppF.stays (.nil))))))))))))
   obtain⟨Lf,hLf⟩:∃f:Nat→List Lx.Bytes,(fun k=>([([40]::Sx.pre 0 (ps.take m)),([40]::Sx.pre 0 (ps.take m))++[[41]],([40]::Sx.pre 0 (ps.take m))++[[41]]++(Sx.typ p)]:List (List Lx.Bytes)).getD k [])=f:=⟨_,rfl⟩
   have L0:Lf 0=([40]::Sx.pre 0 (ps.take m)):=by rw[←hLf];rfl
   have L1:Lf 1=([40]::Sx.pre 0 (ps.take m))++[[41]]:=by rw[←hLf];rfl
   have L2:Lf 2=([40]::Sx.pre 0 (ps.take m))++[[41]]++(Sx.typ p):=by rw[←hLf];rfl
   clear hFs hLf
   refine zoZ (by kernel_rfl) [2,10] (RowI B W (.slice A5 n5 c5) Lf) RowM Fs (.slice A5 n5 c5) (by kernel_rfl) (by kernel_rfl) (by kernel_rfl) (by kernel_rfl) (by kernel_rfl) H8 (n:=12) (by kernel_rfl) ⟨hB0,by rw[L0];exact hO0,fun _=>rfl⟩ ?_ ?_
   ·refine .cons ?_ (.cons ?_ (.cons ?_ (.cons ?_ (.cons ?_ (.cons ?_ (.cons ?_ (.cons ?_ (.cons ?_ (.cons ?_ (.cons ?_ (.cons ?_ (.nil))))))))))))
    ·exact OpOk.mov rfl rfl F0 RowM.rf rfl fun ρ w r k E=>E.n 3 (by kernel_rfl)
    ·refine OpOk.one rfl rfl F1 hBle fun ρ w r k E hI K hK=>?_
     have c:=E.c
     go_simp
     exact hK _ rfl
    ·exact OpOk.app0 (s:=25) (x:=26) (q0:=0) (q:=1) rfl rfl rfl F2 L0 L1 rfl (by simp) (by(have:=H3.o;have:=Sx.typ_len p;have:=H7.o;simp only[List.length_append,List.length_cons,List.length_nil]at *;omega)) hBle F0 (by kernel_rfl) F1 (by kernel_rfl)
    ·exact OpOk.mov rfl rfl F3 RowM.rf rfl fun ρ w r k E=>E.n 0 (by kernel_rfl)
    ·exact OpOk.mov rfl rfl F4 RowM.rf rfl fun ρ w r k E=>E.n 0 (by kernel_rfl)
    ·refine OpOk.val rfl rfl F5 RowM.rf fun ρ w r k E hI K hK=>?_
     have e29:=E.e 29 4 (by kernel_rfl) F4
     go_simp
     exact hK
    ·refine OpOk.val rfl rfl F6 RowM.rf fun ρ w r k E hI K hK=>?_
     have e30:=E.e 30 5 (by kernel_rfl) F5
     have c:=E.c
     go_simp
     exact hK
    ·refine OpOk.val rfl rfl F7 RowM.rf fun ρ w r k E hI K hK=>?_
     have e28:=E.e 28 3 (by kernel_rfl) F3
     have e31:=E.e 31 6 (by kernel_rfl) F6
     have H1:=Hi.o w (by rw[HB.o];exact hI.1)
     have hg:=H1.1
     have c0:=H1.2.1
     have c1:=H1.2.2.1
     have c2:=H1.2.2.2.1
     have c3:=H1.2.2.2.2.1
     have c4:=H1.2.2.2.2.2
     clear H1
     go_simp
     exact hK
    ·refine OpOk.val rfl rfl F8 RowM.rf fun ρ w r k E hI K hK=>?_
     have e32:=E.e 32 7 (by kernel_rfl) F7
     have H1:=Hi.o w (by rw[HB.o];exact hI.1)
     have hg:=H1.1
     have c0:=H1.2.1
     have c1:=H1.2.2.1
     have c2:=H1.2.2.2.1
     have c3:=H1.2.2.2.2.1
     have c4:=H1.2.2.2.2.2
     clear H1
     go_simp
     exact hK
    ·exact OpOk.call (args:=#[.agg #[.int .i64 p.kind,.string ⟨p.name.toArray⟩,.slice An1 p.names.length cn1,.slice Ae1 p.embeds.length ce1,.slice Aq p.parts.length cq]]) rfl rfl F9 hBle rfl Tryz.func28 (by kernel_rfl) rfl (fun ρ w r k E=>by simp only[List.map_toArray,List.map_cons,List.map_nil,E.e 33 8 (by kernel_rfl) F8]) fun w hb=>Hk.o p H7.o.1 Hs.o _ w (IsTy.below (by rw[HB.o];exact hb) _ _ Hn.o)
    ·exact OpOk.appN (j:=0) (s:=27) (x:=34) (p:=2) (q:=9) rfl rfl rfl F10 L1 L2 rfl (by exact H7.o.2.2) (by(have:=H3.o;have:=Sx.typ_len p;have:=H7.o;simp only[List.length_append,List.length_cons,List.length_nil]at *;omega)) hBle F2 (by kernel_rfl) F9 (by kernel_rfl)
    ·exact OpOk.asg rfl rfl F11 F10 rfl (by kernel_rfl)
   ·intro uq wq rq hI hF
    have f11:uq 11=rq:=((zmZ F11 (hF 11 (by decide))).2 rfl).symm
    have hBz:=hI.1
    have hOz:=hI.2.1
    rw[show([2,10]:List Nat).length=2 from rfl,L2]at hOz
    simp only[List.toList_toArray,fillAct,Act.put,List.setIfInBounds_toArray,List.set_cons_zero,List.set_cons_succ,f11]
    clear hI hF F0 F1 F2 F3 F4 F5 F6 F7 F8 F9 F10 F11 H8 L0 L1 L2
    obtain⟨A9,c9,rfl⟩:=hOz.slice
    have J8:=zh hOz
    have Ja:=zh hBz
    clear hOz hBz
    go_wp2_with fail
    go_ret
    exact⟨_,rfl,by rw[HB.o,←Hj.o];exact J8.o,by rw[HB.o];exact Ja.o⟩
def TypedIs (t:Sx.Ty) (v:Value) (W:World):Prop:=Calls Tryz.prog 28 #[v] W fun e W'=>∃u,e=.returned u∧OwnS W' W.heap.size u (Sx.typ t)∧Below W.heap.size W W'
theorem Sx.typ_pos {N:Sx.Names} {d:Nat} {t:Sx.Ty} (h:Sx.rightT N d t=true):0<(Sx.typ t).length:=by
 obtain⟨d',rfl,-,hsh⟩:=Sx.right_parts h
 rw[Sx.typ_eq]
 rcases Sx.shape_kind hsh with hk | hk | hk | hk | hk | hk | hk | hk <;> rw[hk] <;> simp
theorem IsTy.row {W:World} {k:Int} {n:Lx.Bytes} {v1 v2:Value} {A:Option Addr} {m c:Nat} {t:Sx.Ty} (h:IsTy W (.agg #[.int .i64 k,.string ⟨n.toArray⟩,v1,v2,.slice A m c]) t):TyRow W (.slice A m c) t.parts:=by
 obtain⟨An,cn,Ae,ce,Ap,cp,he,-,-,hp⟩:=h.agg
 injection he with he
 simp only[Array.mk.injEq,List.cons.injEq,and_true]at he
 obtain⟨-,-,-,-,he⟩:=he
 rw[he]
 exact hp
theorem zvvZ (n:Nat) (hn:n+1≤1000000) (ih:TypedOk n) (t:Sx.Ty) (hsz0:Sx.size t≤n+1) (hr0:∃d,Sx.rightT NM d t=true) (hkd:t.kind=1) (v:Value) (W:World) (ht:IsTy W v t):TypedIs t v W:=by
 unfold TypedIs
 obtain⟨An,cn,Ae,ce,Ap,cp,rfl,hnm,hem,hp⟩:=ht.agg
 obtain⟨d,hr⟩:=hr0
 obtain⟨d',rfl,hr',hsh⟩:=Sx.right_parts hr
 rw[hkd]at hsh ht ⊢
 have H5:=Sx.size_parts t
 have H1:Sx.sizeL t.parts≤n:=by omega
 have Ha:=Sx.length_size t.parts
 have HT:=zh (show Sx.typ t=[[105,110,116]]by rw[Sx.typ_eq,hkd];simp)
 have Hc:=zh ih
 have HR:=zh hr'
 have Hf:=zh (show Sx.sizeL t.parts≤n∧n+1≤1000000 from⟨H1,hn⟩)
 obtain⟨L,hL⟩:=zE (W.heap.size)
 obtain⟨w2,hw2⟩:=zE (W.alloc (.cells #[.int .i64 1,.string ⟨t.name.toArray⟩,.slice An t.names.length cn,.slice Ae t.embeds.length ce,.slice Ap t.parts.length cp] 26))
 have H0:w2.heap[L]? =some (.cells #[.int .i64 1,.string ⟨t.name.toArray⟩,.slice An t.names.length cn,.slice Ae t.embeds.length ce,.slice Ap t.parts.length cp] 26 (0,0)):=by rw[←hw2,←hL];exact heap_alloc_new W _
 have H2:Below L W w2:=by rw[←hw2,←hL];exact(Below.refl _ _).alloc (Nat.le_refl _) _
 obtain⟨B,hB⟩:=zE (w2.heap.size)
 have hLB:L<B:=by rw[←hB];exact zaZ H0
 have H3:=zh (show B≤w2.heap.size by rw[hB];exact Nat.le_refl _)
 have H6:=zh (fun X (h:Below B w2 X)=>(show Below W.heap.size W X by rw[hL];exact H2.trans (h.mono (Nat.le_of_lt hLB))))
 have H8:=zh (show W.heap.size≤B by rw[hL];exact Nat.le_of_lt hLB)
 have H9:=zh (fun X (h:Below B w2 X)=>(show X.heap[L]? =some (.cells #[.int .i64 1,.string ⟨t.name.toArray⟩,.slice An t.names.length cn,.slice Ae t.embeds.length ce,.slice Ap t.parts.length cp] 26 (0,0))from(h.block L hLB).trans H0))
 have H4:=zh (show Below B w2 w2 from Below.refl _ _)
 have H7:=zh (fun(s:Lx.Bytes)=>(show OwnS (w2.alloc (.cells #[.string ⟨s.toArray⟩] 9)) B (.slice (some ⟨B,0,none⟩) 1 1) [s]by have:=OwnS.one (B:=B) (s:=s) (heap_alloc_new w2 (.cells #[.string ⟨s.toArray⟩] 9)) H3.o;rw[hB]at this;exact this))
 have HP:=zh hp
 have Hd:=zh hnm
 have Hb:=zh hem
 obtain⟨x0,x1,x2,x3,x4⟩:=zcZ H0
 have He:=zaZ H0
 clear ih hr hr' ht hp hnm hem H5 H1 H0 H2 hsh hkd hsz0 hn
 go_enter Tryz.func28, Tryz.ntmps28
 go_wp2_with fail
 go_ret
 exact⟨.slice (some ⟨B,0,none⟩) 1 1,rfl,by rw[HT.o];exact(H7.o [105,110,116]).base_le H8.o,H6.o _ (H4.o.alloc H3.o _)⟩
theorem zvwZ (n:Nat) (hn:n+1≤1000000) (ih:TypedOk n) (t:Sx.Ty) (hsz0:Sx.size t≤n+1) (hr0:∃d,Sx.rightT NM d t=true) (hkd:t.kind=2) (v:Value) (W:World) (ht:IsTy W v t):TypedIs t v W:=by
 unfold TypedIs
 obtain⟨An,cn,Ae,ce,Ap,cp,rfl,hnm,hem,hp⟩:=ht.agg
 obtain⟨d,hr⟩:=hr0
 obtain⟨d',rfl,hr',hsh⟩:=Sx.right_parts hr
 rw[hkd]at hsh ht ⊢
 have H5:=Sx.size_parts t
 have H1:Sx.sizeL t.parts≤n:=by omega
 have Ha:=Sx.length_size t.parts
 have HT:=zh (show Sx.typ t=[[98,111,111,108]]by rw[Sx.typ_eq,hkd];simp)
 have Hc:=zh ih
 have HR:=zh hr'
 have Hf:=zh (show Sx.sizeL t.parts≤n∧n+1≤1000000 from⟨H1,hn⟩)
 obtain⟨L,hL⟩:=zE (W.heap.size)
 obtain⟨w2,hw2⟩:=zE (W.alloc (.cells #[.int .i64 2,.string ⟨t.name.toArray⟩,.slice An t.names.length cn,.slice Ae t.embeds.length ce,.slice Ap t.parts.length cp] 26))
 have H0:w2.heap[L]? =some (.cells #[.int .i64 2,.string ⟨t.name.toArray⟩,.slice An t.names.length cn,.slice Ae t.embeds.length ce,.slice Ap t.parts.length cp] 26 (0,0)):=by rw[←hw2,←hL];exact heap_alloc_new W _
 have H2:Below L W w2:=by rw[←hw2,←hL];exact(Below.refl _ _).alloc (Nat.le_refl _) _
 obtain⟨B,hB⟩:=zE (w2.heap.size)
 have hLB:L<B:=by rw[←hB];exact zaZ H0
 have H3:=zh (show B≤w2.heap.size by rw[hB];exact Nat.le_refl _)
 have H6:=zh (fun X (h:Below B w2 X)=>(show Below W.heap.size W X by rw[hL];exact H2.trans (h.mono (Nat.le_of_lt hLB))))
 have H8:=zh (show W.heap.size≤B by rw[hL];exact Nat.le_of_lt hLB)
 have H9:=zh (fun X (h:Below B w2 X)=>(show X.heap[L]? =some (.cells #[.int .i64 2,.string ⟨t.name.toArray⟩,.slice An t.names.length cn,.slice Ae t.embeds.length ce,.slice Ap t.parts.length cp] 26 (0,0))from(h.block L hLB).trans H0))
 have H4:=zh (show Below B w2 w2 from Below.refl _ _)
 have H7:=zh (fun(s:Lx.Bytes)=>(show OwnS (w2.alloc (.cells #[.string ⟨s.toArray⟩] 9)) B (.slice (some ⟨B,0,none⟩) 1 1) [s]by have:=OwnS.one (B:=B) (s:=s) (heap_alloc_new w2 (.cells #[.string ⟨s.toArray⟩] 9)) H3.o;rw[hB]at this;exact this))
 have HP:=zh hp
 have Hd:=zh hnm
 have Hb:=zh hem
 obtain⟨x0,x1,x2,x3,x4⟩:=zcZ H0
 have He:=zaZ H0
 clear ih hr hr' ht hp hnm hem H5 H1 H0 H2 hsh hkd hsz0 hn
 go_enter Tryz.func28, Tryz.ntmps28
 go_wp2_with fail
 go_ret
 exact⟨.slice (some ⟨B,0,none⟩) 1 1,rfl,by rw[HT.o];exact(H7.o [98,111,111,108]).base_le H8.o,H6.o _ (H4.o.alloc H3.o _)⟩
theorem zvxZ (n:Nat) (hn:n+1≤1000000) (ih:TypedOk n) (t:Sx.Ty) (hsz0:Sx.size t≤n+1) (hr0:∃d,Sx.rightT NM d t=true) (hkd:t.kind=3) (v:Value) (W:World) (ht:IsTy W v t):TypedIs t v W:=by
 unfold TypedIs
 obtain⟨An,cn,Ae,ce,Ap,cp,rfl,hnm,hem,hp⟩:=ht.agg
 obtain⟨d,hr⟩:=hr0
 obtain⟨d',rfl,hr',hsh⟩:=Sx.right_parts hr
 rw[hkd]at hsh ht ⊢
 have H5:=Sx.size_parts t
 have H1:Sx.sizeL t.parts≤n:=by omega
 have Ha:=Sx.length_size t.parts
 have HT:=zh (show Sx.typ t=[[116,101,120,116]]by rw[Sx.typ_eq,hkd];simp)
 have Hc:=zh ih
 have HR:=zh hr'
 have Hf:=zh (show Sx.sizeL t.parts≤n∧n+1≤1000000 from⟨H1,hn⟩)
 obtain⟨L,hL⟩:=zE (W.heap.size)
 obtain⟨w2,hw2⟩:=zE (W.alloc (.cells #[.int .i64 3,.string ⟨t.name.toArray⟩,.slice An t.names.length cn,.slice Ae t.embeds.length ce,.slice Ap t.parts.length cp] 26))
 have H0:w2.heap[L]? =some (.cells #[.int .i64 3,.string ⟨t.name.toArray⟩,.slice An t.names.length cn,.slice Ae t.embeds.length ce,.slice Ap t.parts.length cp] 26 (0,0)):=by rw[←hw2,←hL];exact heap_alloc_new W _
 have H2:Below L W w2:=by rw[←hw2,←hL];exact(Below.refl _ _).alloc (Nat.le_refl _) _
 obtain⟨B,hB⟩:=zE (w2.heap.size)
 have hLB:L<B:=by rw[←hB];exact zaZ H0
 have H3:=zh (show B≤w2.heap.size by rw[hB];exact Nat.le_refl _)
 have H6:=zh (fun X (h:Below B w2 X)=>(show Below W.heap.size W X by rw[hL];exact H2.trans (h.mono (Nat.le_of_lt hLB))))
 have H8:=zh (show W.heap.size≤B by rw[hL];exact Nat.le_of_lt hLB)
 have H9:=zh (fun X (h:Below B w2 X)=>(show X.heap[L]? =some (.cells #[.int .i64 3,.string ⟨t.name.toArray⟩,.slice An t.names.length cn,.slice Ae t.embeds.length ce,.slice Ap t.parts.length cp] 26 (0,0))from(h.block L hLB).trans H0))
 have H4:=zh (show Below B w2 w2 from Below.refl _ _)
 have H7:=zh (fun(s:Lx.Bytes)=>(show OwnS (w2.alloc (.cells #[.string ⟨s.toArray⟩] 9)) B (.slice (some ⟨B,0,none⟩) 1 1) [s]by have:=OwnS.one (B:=B) (s:=s) (heap_alloc_new w2 (.cells #[.string ⟨s.toArray⟩] 9)) H3.o;rw[hB]at this;exact this))
 have HP:=zh hp
 have Hd:=zh hnm
 have Hb:=zh hem
 obtain⟨x0,x1,x2,x3,x4⟩:=zcZ H0
 have He:=zaZ H0
 clear ih hr hr' ht hp hnm hem H5 H1 H0 H2 hsh hkd hsz0 hn
 go_enter Tryz.func28, Tryz.ntmps28
 go_wp2_with fail
 go_ret
 exact⟨.slice (some ⟨B,0,none⟩) 1 1,rfl,by rw[HT.o];exact(H7.o [116,101,120,116]).base_le H8.o,H6.o _ (H4.o.alloc H3.o _)⟩
theorem zvyZ (n:Nat) (hn:n+1≤1000000) (ih:TypedOk n) (t:Sx.Ty) (hsz0:Sx.size t≤n+1) (hr0:∃d,Sx.rightT NM d t=true) (hkd:t.kind=4) (v:Value) (W:World) (ht:IsTy W v t):TypedIs t v W:=by
 unfold TypedIs
 obtain⟨An,cn,Ae,ce,Ap,cp,rfl,hnm,hem,hp⟩:=ht.agg
 obtain⟨d,hr⟩:=hr0
 obtain⟨d',rfl,hr',hsh⟩:=Sx.right_parts hr
 rw[hkd]at hsh ht ⊢
 have H5:=Sx.size_parts t
 have H1:Sx.sizeL t.parts≤n:=by omega
 have Ha:=Sx.length_size t.parts
 have HT:=zh (show Sx.typ t=[t.name]by rw[Sx.typ_eq,hkd];simp)
 have Hc:=zh ih
 have HR:=zh hr'
 have Hf:=zh (show Sx.sizeL t.parts≤n∧n+1≤1000000 from⟨H1,hn⟩)
 obtain⟨L,hL⟩:=zE (W.heap.size)
 obtain⟨w2,hw2⟩:=zE (W.alloc (.cells #[.int .i64 4,.string ⟨t.name.toArray⟩,.slice An t.names.length cn,.slice Ae t.embeds.length ce,.slice Ap t.parts.length cp] 26))
 have H0:w2.heap[L]? =some (.cells #[.int .i64 4,.string ⟨t.name.toArray⟩,.slice An t.names.length cn,.slice Ae t.embeds.length ce,.slice Ap t.parts.length cp] 26 (0,0)):=by rw[←hw2,←hL];exact heap_alloc_new W _
 have H2:Below L W w2:=by rw[←hw2,←hL];exact(Below.refl _ _).alloc (Nat.le_refl _) _
 obtain⟨B,hB⟩:=zE (w2.heap.size)
 have hLB:L<B:=by rw[←hB];exact zaZ H0
 have H3:=zh (show B≤w2.heap.size by rw[hB];exact Nat.le_refl _)
 have H6:=zh (fun X (h:Below B w2 X)=>(show Below W.heap.size W X by rw[hL];exact H2.trans (h.mono (Nat.le_of_lt hLB))))
 have H8:=zh (show W.heap.size≤B by rw[hL];exact Nat.le_of_lt hLB)
 have H9:=zh (fun X (h:Below B w2 X)=>(show X.heap[L]? =some (.cells #[.int .i64 4,.string ⟨t.name.toArray⟩,.slice An t.names.length cn,.slice Ae t.embeds.length ce,.slice Ap t.parts.length cp] 26 (0,0))from(h.block L hLB).trans H0))
 have H4:=zh (show Below B w2 w2 from Below.refl _ _)
 have H7:=zh (fun(s:Lx.Bytes)=>(show OwnS (w2.alloc (.cells #[.string ⟨s.toArray⟩] 9)) B (.slice (some ⟨B,0,none⟩) 1 1) [s]by have:=OwnS.one (B:=B) (s:=s) (heap_alloc_new w2 (.cells #[.string ⟨s.toArray⟩] 9)) H3.o;rw[hB]at this;exact this))
 have HP:=zh hp
 have Hd:=zh hnm
 have Hb:=zh hem
 obtain⟨x0,x1,x2,x3,x4⟩:=zcZ H0
 have He:=zaZ H0
 clear ih hr hr' ht hp hnm hem H5 H1 H0 H2 hsh hkd hsz0 hn
 go_enter Tryz.func28, Tryz.ntmps28
 go_wp2_with fail
 go_ret
 exact⟨.slice (some ⟨B,0,none⟩) 1 1,rfl,by rw[HT.o];exact(H7.o t.name).base_le H8.o,H6.o _ (H4.o.alloc H3.o _)⟩
theorem zvzZ (n:Nat) (hn:n+1≤1000000) (ih:TypedOk n) (t:Sx.Ty) (hsz0:Sx.size t≤n+1) (hr0:∃d,Sx.rightT NM d t=true) (hkd:t.kind=5) (v:Value) (W:World) (ht:IsTy W v t):TypedIs t v W:=by
 unfold TypedIs
 obtain⟨An,cn,Ae,ce,Ap,cp,rfl,hnm,hem,hp⟩:=ht.agg
 obtain⟨d,hr⟩:=hr0
 obtain⟨d',rfl,hr',hsh⟩:=Sx.right_parts hr
 rw[hkd]at hsh ht ⊢
 have Ho:=Sx.size_parts t
 have Hi:Sx.sizeL t.parts≤n:=by omega
 have Hy:=Sx.length_size t.parts
 have Hb:0<t.parts.length:=by simp[Sx.shape]at hsh;omega
 obtain⟨g,off,An1,cn1,Ae1,ce1,Aq,cq,rfl,hty,hc5⟩:=hp.spot 0 Hb
 obtain⟨p,hpe⟩:=zE (t.parts[0]'Hb)
 have H2:p∈t.parts:=by rw[←hpe];exact List.getElem_mem Hb
 rw[hpe]at hty hc5
 have Hr:=zh hty
 have Hw:=zh hc5
 have Hc:=zh (show Sx.size p≤n∧(∃d,Sx.rightT NM d p=true)∧0<(Sx.typ p).length∧n+1≤1000000 from⟨by have:=Sx.size_mem H2;omega,⟨d',hr' p H2⟩,Sx.typ_pos (hr' p H2),hn⟩)
 have Hv:(0:Int)<(t.parts.length:Int):=by omega
 have HT:=zh (show Sx.typ t=[42]::Sx.typ p by
  rw[Sx.typ_eq,hkd,Sx.typL_head Hb,hpe]
  simp)
 have Ht:=zh ih
 have HR:=zh hr'
 have J3:=zh (show Sx.sizeL t.parts≤n∧n+1≤1000000 from⟨Hi,hn⟩)
 obtain⟨L,hL⟩:=zE (W.heap.size)
 obtain⟨w2,hw2⟩:=zE (W.alloc (.cells #[.int .i64 5,.string ⟨t.name.toArray⟩,.slice An t.names.length cn,.slice Ae t.embeds.length ce,.slice (some ⟨g,off,none⟩) t.parts.length cp] 26))
 have H0:w2.heap[L]? =some (.cells #[.int .i64 5,.string ⟨t.name.toArray⟩,.slice An t.names.length cn,.slice Ae t.embeds.length ce,.slice (some ⟨g,off,none⟩) t.parts.length cp] 26 (0,0)):=by rw[←hw2,←hL];exact heap_alloc_new W _
 have Hj:Below L W w2:=by rw[←hw2,←hL];exact(Below.refl _ _).alloc (Nat.le_refl _) _
 obtain⟨B,hB⟩:=zE (w2.heap.size)
 have hLB:L<B:=by rw[←hB];exact zaZ H0
 have H4:=zh (show B≤w2.heap.size by rw[hB];exact Nat.le_refl _)
 have Hf:=zh (fun X (h:Below B w2 X)=>(show Below W.heap.size W X by rw[hL];exact Hj.trans (h.mono (Nat.le_of_lt hLB))))
 have Hu:=zh (show W.heap.size≤B by rw[hL];exact Nat.le_of_lt hLB)
 have Hp:=zh (fun X (h:Below B w2 X)=>(show X.heap[L]? =some (.cells #[.int .i64 5,.string ⟨t.name.toArray⟩,.slice An t.names.length cn,.slice Ae t.embeds.length ce,.slice (some ⟨g,off,none⟩) t.parts.length cp] 26 (0,0))from(h.block L hLB).trans H0))
 have Hn:=zh (show Below B w2 w2 from Below.refl _ _)
 have J0:=zh (fun(s:Lx.Bytes)=>(show OwnS (w2.alloc (.cells #[.string ⟨s.toArray⟩] 9)) B (.slice (some ⟨B,0,none⟩) 1 1) [s]by have:=OwnS.one (B:=B) (s:=s) (heap_alloc_new w2 (.cells #[.string ⟨s.toArray⟩] 9)) H4.o;rw[hB]at this;exact this))
 have HP:=zh hp
 have J1:=zh hnm
 have Hz:=zh hem
 obtain⟨x0,x1,x2,x3,x4⟩:=zcZ H0
 have J2:=zaZ H0
 clear ih hr hr' ht hp hnm hem Ho Hi H0 Hj hsh hkd hsz0 hn hty hc5 hpe H2
 go_enter Tryz.func28, Tryz.ntmps28
 obtain⟨w3,hw3⟩:=zE (w2.alloc (.cells #[.string ⟨#[42]⟩] 9))
 have H7:Below B w2 w3:=by rw[←hw3];exact Hn.o.alloc H4.o _
 have Hk:OwnS w3 B (.slice (some ⟨B,0,none⟩) 1 1) [[42]]:=by rw[←hw3];have:=OwnS.one (B:=B) (heap_alloc_new w2 (.cells #[.string ⟨#[42]⟩] 9)) H4.o;rw[hB]at this;exact this
 have H1:=Hp.o w3 H7
 obtain⟨y0,y1,y2,y3,y4⟩:=zcZ H1
 have Hx:=zaZ H1
 have Hh:=zh Hk
 have Hm:=zh H7
 obtain⟨hg5,d0,d1,d2,d3,d4⟩:=Hw.o w3 (Hf.o _ H7)
 rw[Nat.zero_mul,Nat.add_zero]at d0 d1 d2 d3 d4
 have Hd:=zh (show B≤w3.heap.size from Nat.le_trans H4.o H7.size)
 clear H7 Hk H1
 go_wp2_with (first
  | (go_at_call 28;refine(Ht.o p Hc.o.1 Hc.o.2.1 _ w3 (IsTy.below (Hf.o w3 Hm.o) _ _ Hr.o)).mono ?_;rintro e w6 ⟨u6,rfl,Hl,Hg⟩;have H5:=Str.of_own Hl (fun g hg=>(Hh.o.lt g hg).2);have H8:=Hh.o.below Hg;have Ha:=Hm.o.trans (Hg.mono Hd.o);have He:=zh H5;have H9:=zh H8;have H3:=zh Ha;clear H5 H8 Ha Hl Hg)
  | (at_builtin;refine zpZ rfl _ _ rfl rfl rfl H9.o He.o (Hc.o.2.2.1) (by have:=Hc.o;have:=Sx.typ_len p;simp;omega) (Nat.le_trans H4.o H3.o.size) ?_;intro r7 w7 hO7 H6))
 have hB7:=zzZ H3.o (Nat.le_trans H4.o H3.o.size) H6 (fun g hg=>(H9.o.lt g hg).1)
 have Hq:=zh hO7
 have Hs:=zh hB7
 clear hO7 hB7 H6
 go_ret
 exact⟨_,rfl,by rw[HT.o];exact Hq.o.base_le Hu.o,Hf.o _ Hs.o⟩
theorem zwaZ (n:Nat) (hn:n+1≤1000000) (ih:TypedOk n) (t:Sx.Ty) (hsz0:Sx.size t≤n+1) (hr0:∃d,Sx.rightT NM d t=true) (hkd:t.kind=7) (v:Value) (W:World) (ht:IsTy W v t):TypedIs t v W:=by
 unfold TypedIs
 obtain⟨An,cn,Ae,ce,Ap,cp,rfl,hnm,hem,hp⟩:=ht.agg
 obtain⟨d,hr⟩:=hr0
 obtain⟨d',rfl,hr',hsh⟩:=Sx.right_parts hr
 rw[hkd]at hsh ht ⊢
 have Hn:=Sx.size_parts t
 have Hf:Sx.sizeL t.parts≤n:=by omega
 have Hv:=Sx.length_size t.parts
 have Hi:0<t.parts.length:=by simp[Sx.shape]at hsh;omega
 have Hr:=zh Hi
 have HT:=zh (show Sx.typ t=[102,110]::([40]::Sx.params 0 t.parts)by rw[Sx.typ_eq,hkd];simp)
 have Hs:=zh ih
 have HR:=zh hr'
 have Hd:=zh (show Sx.sizeL t.parts≤n∧n+1≤1000000 from⟨Hf,hn⟩)
 obtain⟨L,hL⟩:=zE (W.heap.size)
 obtain⟨w2,hw2⟩:=zE (W.alloc (.cells #[.int .i64 7,.string ⟨t.name.toArray⟩,.slice An t.names.length cn,.slice Ae t.embeds.length ce,.slice Ap t.parts.length cp] 26))
 have H0:w2.heap[L]? =some (.cells #[.int .i64 7,.string ⟨t.name.toArray⟩,.slice An t.names.length cn,.slice Ae t.embeds.length ce,.slice Ap t.parts.length cp] 26 (0,0)):=by rw[←hw2,←hL];exact heap_alloc_new W _
 have Hh:Below L W w2:=by rw[←hw2,←hL];exact(Below.refl _ _).alloc (Nat.le_refl _) _
 obtain⟨B,hB⟩:=zE (w2.heap.size)
 have hLB:L<B:=by rw[←hB];exact zaZ H0
 have H3:=zh (show B≤w2.heap.size by rw[hB];exact Nat.le_refl _)
 have Hg:=zh (fun X (h:Below B w2 X)=>(show Below W.heap.size W X by rw[hL];exact Hh.trans (h.mono (Nat.le_of_lt hLB))))
 have Ht:=zh (show W.heap.size≤B by rw[hL];exact Nat.le_of_lt hLB)
 have Ho:=zh (fun X (h:Below B w2 X)=>(show X.heap[L]? =some (.cells #[.int .i64 7,.string ⟨t.name.toArray⟩,.slice An t.names.length cn,.slice Ae t.embeds.length ce,.slice Ap t.parts.length cp] 26 (0,0))from(h.block L hLB).trans H0))
 have Hm:=zh (show Below B w2 w2 from Below.refl _ _)
 have Hx:=zh (fun(s:Lx.Bytes)=>(show OwnS (w2.alloc (.cells #[.string ⟨s.toArray⟩] 9)) B (.slice (some ⟨B,0,none⟩) 1 1) [s]by have:=OwnS.one (B:=B) (s:=s) (heap_alloc_new w2 (.cells #[.string ⟨s.toArray⟩] 9)) H3.o;rw[hB]at this;exact this))
 have HP:=zh hp
 have Hy:=zh hnm
 have Hw:=zh hem
 obtain⟨x0,x1,x2,x3,x4⟩:=zcZ H0
 have Hz:=zaZ H0
 clear ih hr hr' ht hp hnm hem Hn Hf H0 Hh hsh hkd hsz0 hn Hi
 go_enter Tryz.func28, Tryz.ntmps28
 obtain⟨w3,hw3⟩:=zE (w2.alloc (.cells #[.string ⟨#[102,110]⟩] 9))
 have H9:Below B w2 w3:=by rw[←hw3];exact Hm.o.alloc H3.o _
 have Hj:OwnS w3 B (.slice (some ⟨B,0,none⟩) 1 1) [[102,110]]:=by rw[←hw3];have:=OwnS.one (B:=B) (heap_alloc_new w2 (.cells #[.string ⟨#[102,110]⟩] 9)) H3.o;rw[hB]at this;exact this
 have H1:=Ho.o w3 H9
 obtain⟨y0,y1,y2,y3,y4⟩:=zcZ H1
 have Hu:=zaZ H1
 have He:=zh Hj
 have Hl:=zh H9
 have Ha:=zh (show B≤w3.heap.size from Nat.le_trans H3.o H9.size)
 clear H9 Hj H1
 go_wp2_with (first
  | (go_at_call 69;refine(zmnZ n (by have:=Hd.o;omega) Hs.o t.parts Hr.o Hd.o.1 (fun p hm=>⟨_,HR.o p hm⟩) (fun p hm=>Sx.typ_pos (HR.o p hm)) _ w3 (HP.o.below (Hg.o w3 Hl.o))).mono ?_;rintro e w6 ⟨u6,rfl,Hk,Hc⟩;have H4:=Str.of_own Hk (fun g hg=>(He.o.lt g hg).2);have H6:=He.o.below Hc;have H8:=Hl.o.trans (Hc.mono Ha.o);have Hb:=zh H4;have H7:=zh H6;have H2:=zh H8;clear H4 H6 H8 Hk Hc)
  | (at_builtin;refine zpZ rfl _ _ rfl rfl rfl H7.o Hb.o (by simp) (by have:=Hd.o;have:=Sx.params_len 0 t.parts;simp;omega) (Nat.le_trans H3.o H2.o.size) ?_;intro r7 w7 hO7 H5))
 have hB7:=zzZ H2.o (Nat.le_trans H3.o H2.o.size) H5 (fun g hg=>(H7.o.lt g hg).1)
 have Hp:=zh hO7
 have Hq:=zh hB7
 clear hO7 hB7 H5
 go_ret
 exact⟨_,rfl,by rw[HT.o];exact Hp.o.base_le Ht.o,Hg.o _ Hq.o⟩
end Go.Proofs.YtdncljdfmdgdaaaGreatDoor
