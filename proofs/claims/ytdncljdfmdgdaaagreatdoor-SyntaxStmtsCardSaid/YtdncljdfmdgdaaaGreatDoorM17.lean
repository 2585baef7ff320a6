/-
  Short laws for a region that builds a row of texts.
-/
import Derived.Test.YtdncljdfmdgdaaaGreatDoorM1
import Derived.Test.YtdncljdfmdgdaaaGreatDoorM16
import Derived.Test.YtdncljdfmdgdaaaGreatDoorM8
import Derived.Test.YtdncljdfmdgdaaaGreatDoorM7
set_option linter.unusedSimpArgs false
set_option linter.unusedVariables false
set_option maxRecDepth 100000
set_option maxHeartbeats 16000000
namespace Go.Proofs.YtdncljdfmdgdaaaGreatDoor
open Go.RowKit Go.Shelf
attribute [local go_sem] opWp zoZ zvZ zpZ
/-! ### the stages of the row in hand -/
def stages (l:List Lx.Bytes):List (List Lx.Bytes)->List (List Lx.Bytes)
 | []=>[l]
 | m::ms=>l::stages (l++m) ms
def Lths (f:Nat->List Lx.Bytes) (k:Nat) (l:List Lx.Bytes):List (List Lx.Bytes)->Prop
 | []=>f k=l/\True
 | m::ms=>f k=l/\Lths f (k+1) (l++m) ms
def tot (n:Nat):List (List Lx.Bytes)->Nat
 | []=>n
 | m::ms=>tot (n+m.length) ms
theorem zqpZ:∀(ms:List (List Lx.Bytes)) (n:Nat),n<=tot n ms
 | [],n=>ybZ _
 | m::ms,n=>ymZ (Nat.le_add_right _ _) (zqpZ ms (n+m.length))
theorem zfgZ:∀(ms:List (List Lx.Bytes)) (l:List Lx.Bytes) (k:Nat),((stages l ms).getD k []).length<=tot l.length ms
 | [],l,0=>ybZ _
 | [],l,k+1=>yxZ _
 | m::ms,l,0=>zqpZ (m::ms) l.length
 | m::ms,l,k+1=>by have:=zfgZ ms (l++m) k;rw[ycZ]at this;exact this
theorem zjiZ:∀(ms:List (List Lx.Bytes)) (l:List Lx.Bytes) (f:Nat->List Lx.Bytes) (k:Nat),(∀j,f (k+j)=(stages l ms).getD j [])->Lths f k l ms
 | [],l,f,k,h=>⟨h 0,trivial⟩
 | m::ms,l,f,k,h=>⟨h 0,zjiZ ms (l++m) f (k+1) fun j=>by rw[Nat.add_assoc,Nat.add_comm 1 j];exact h (j+1)⟩
theorem zbdZ (l:List Lx.Bytes) (ms:List (List Lx.Bytes)) (h:tot l.length ms<=100000000):∃f:Nat->List Lx.Bytes,Lths f 0 l ms/\∀k,(f k).length<=100000000:=
 ⟨fun k=>(stages l ms).getD k [],zjiZ ms l _ 0 fun j=>by rw[yGZ],fun k=>ymZ (zfgZ ms l k) h⟩
theorem zbkZ (l:List Lx.Bytes) (ms:List (List Lx.Bytes)) (h:tot l.length ms<=100000000):∃f:Nat->List Lx.Bytes,(f 0=[]/\Lths f 1 l ms)/\∀k,(f k).length<=100000000:=
 ⟨fun k=>([]::stages l ms).getD k [],⟨rfl,zjiZ ms l _ 1 fun j=>by rw[Nat.add_comm];rfl⟩,fun k=>by
  cases k with
  | zero=>exact yxZ _
  | succ k=>exact ymZ (zfgZ ms l k) h⟩
theorem zrZ (l:List (Value->World->Value->Nat->Prop)) (hs:AllStay RowM l:=by repeat' first | exact .nil | refine .cons (by first | exact IsF.stays | exact AppF.stays | exact StrF.stays) ?_):∃F,Nths F 0 l/\AllStay RowM F:=⟨l,zcgZ rfl,hs⟩
theorem RowI.own {B:Nat} {W w:World} {R0 r:Value} {Ls:Nat->List Lx.Bytes} {k:Nat} {l:List Lx.Bytes} (h:RowI B W R0 Ls k w r) (hl:Ls k=l):OwnS w B r l:=hl▸h.2.1
theorem RowI.mk0 {B:Nat} {W w:World} {R0:Value} {Ls:Nat->List Lx.Bytes} {l:List Lx.Bytes} (hb:Below B W w) (ho:OwnS w B R0 l) (hl:Ls 0=l):RowI B W R0 Ls 0 w R0:=⟨hb,hl.symm▸ho,fun _=>rfl⟩
section
variable {ops:Array Oper} {Q:Exit->Act->World->Prop} {a:Act} {apps:List Nat} {Fs:List (Value->World->Value->Nat->Prop)} {i:Nat} {o:Oper} {B:Nat} {W:World} {R0:Value} {Ls:Nat->List Lx.Bytes} {d q:Nat} {m:List Lx.Bytes} {u:Value}
theorem OpOk.aa {j:Nat} (hF:nth Fs i=AppF j) (hq:nth Fs q=AppF j) (d:Nat) (hr:reads ops.toList i d q=true:=by kernel_rfl) (ho:o.op=.assign (.tmp d):=by rfl) (hi:apps.contains i=false:=by rfl) (hg:o.guard=none:=by rfl):OpOk Tryz.prog Q ops a apps (RowI B W R0 Ls) RowM (nth Fs) i o:=OpOk.asg hi hg hF hq ho hr
theorem OpOk.o0 (hB:B<=W.heap.size) (hF:nth Fs i=StrF m)
  (h:∀(ρ:Operand->Value) (w:World) (K:Value->World->Prop),(∀v,ρ (.const v)=v)->(∀cs:Array Value,cs.toList=strsV m->K (.slice (some ⟨w.heap.size,0,none⟩) m.length m.length) (w.alloc (.cells cs 9)))->opWp Tryz.prog o ρ w K:=by intro ρ w K c hK;go_simp;exact hK _ rfl)
  (hi:apps.contains i=false:=by rfl) (hg:o.guard=none:=by rfl):OpOk Tryz.prog Q ops a apps (RowI B W R0 Ls) RowM (nth Fs) i o:=OpOk.one hi hg hF hB fun ρ w r k E hI K hK=>h ρ w K E.c hK
theorem OpOk.o1 (hB:B<=W.heap.size) (hF:nth Fs i=StrF m) (hd:Rd ops.toList a Fs i true d u)
  (h:∀(ρ:Operand->Value) (w:World) (K:Value->World->Prop),ρ (.tmp d)=u->(∀v,ρ (.const v)=v)->(∀cs:Array Value,cs.toList=strsV m->K (.slice (some ⟨w.heap.size,0,none⟩) m.length m.length) (w.alloc (.cells cs 9)))->opWp Tryz.prog o ρ w K:=by intro ρ w K e c hK;go_simp;exact hK _ rfl)
  (hi:apps.contains i=false:=by rfl) (hg:o.guard=none:=by rfl):OpOk Tryz.prog Q ops a apps (RowI B W R0 Ls) RowM (nth Fs) i o:=OpOk.one hi hg hF hB fun ρ w r k E hI K hK=>h ρ w K (hd ρ w r k E rfl) E.c hK
theorem OpOk.h0 {l:List Nat} (hB:B<=W.heap.size) (hF:nth Fs i=AppF 0) (hL:Ls 1=m)
  (h:∀(ρ:Operand->Value) (w:World) (K:Value->World->Prop),(∀v,ρ (.const v)=v)->(∀cs:Array Value,cs.toList=strsV m->K (.slice (some ⟨w.heap.size,0,none⟩) m.length m.length) (w.alloc (.cells cs 9)))->opWp Tryz.prog o ρ w K:=by intro ρ w K c hK;go_simp;exact hK _ rfl)
  (hm:m.length<=maxLen:=by simp[maxLen]) (hg:o.guard=none:=by rfl):OpOk Tryz.prog Q ops a (i::l) (RowI B W R0 Ls) RowM (nth Fs) i o:=OpOk.hone rfl hg hF hB hL hm fun ρ w r k E hI K hK=>h ρ w K E.c hK
theorem OpOk.h1 {l:List Nat} (hB:B<=W.heap.size) (hF:nth Fs i=AppF 0) (hL:Ls 1=m) (hd:Rd ops.toList a Fs i true d u)
  (h:∀(ρ:Operand->Value) (w:World) (K:Value->World->Prop),ρ (.tmp d)=u->(∀v,ρ (.const v)=v)->(∀cs:Array Value,cs.toList=strsV m->K (.slice (some ⟨w.heap.size,0,none⟩) m.length m.length) (w.alloc (.cells cs 9)))->opWp Tryz.prog o ρ w K:=by intro ρ w K e c hK;go_simp;exact hK _ rfl)
  (hm:m.length<=maxLen:=by simp[maxLen]) (hg:o.guard=none:=by rfl):OpOk Tryz.prog Q ops a (i::l) (RowI B W R0 Ls) RowM (nth Fs) i o:=OpOk.hone rfl hg hF hB hL hm fun ρ w r k E hI K hK=>h ρ w K (hd ρ w r k E rfl) E.c hK
theorem OpOk.rv (hB:W.heap.size=B) (hF:nth Fs i=StrF m) (hv:StrRow W u m) (h:Rd ops.toList a Fs i true d u) (ho:o.op=.move (.tmp d):=by rfl) (hi:apps.contains i=false:=by rfl) (hg:o.guard=none:=by rfl):OpOk Tryz.prog Q ops a apps (RowI B W R0 Ls) RowM (nth Fs) i o:=
 OpOk.rowv hi hg hF ho hv hB fun ρ w r k E=>h ρ w r k E rfl
theorem OpOk.N (s x:Nat) {j p:Nat} {l0 l1:List Lx.Bytes} (hB:B<=W.heap.size) (hn:∀k,(Ls k).length<=100000000) (hF:nth Fs i=AppF (j+1)) (h0:Ls (j+1)=l0) (h1:Ls (j+2)=l1) (hp:nth Fs p=AppF j) (hq:nth Fs q=StrF m)
  (hm:0<m.length:=by simp) (hLs:l1=l0++m:=by rfl) (ho:o.op=.call { callee:=.builtin .append,args:=#[.tmp s,.tmp x],argTypes:=#[22, 22] } :=by rfl) (hi:apps[j+1]? =some i:=by rfl) (hg:o.guard=none:=by rfl)
  (hrp:reads ops.toList i s p=true:=by kernel_rfl) (hr:reads ops.toList i x q=true:=by kernel_rfl):OpOk Tryz.prog Q ops a apps (RowI B W R0 Ls) RowM (nth Fs) i o:=
 OpOk.appN hi hg ho hF h0 h1 hLs hm (by have:=hn (j+2);rw[h1,hLs,ycZ]at this;exact this) hB hp hrp hq hr
theorem OpOk.N0 (s x:Nat) {p:Nat} {l:List Nat} {l0 l1:List Lx.Bytes} (hB:B<=W.heap.size) (hn:∀k,(Ls k).length<=100000000) (hF:nth Fs i=AppF 0) (h0:Ls 0=l0) (h1:Ls 1=l1) (hp:nth Fs p=IsF R0) (hq:nth Fs q=StrF m)
  (hm:0<m.length:=by simp) (hLs:l1=l0++m:=by rfl) (ho:o.op=.call { callee:=.builtin .append,args:=#[.tmp s,.tmp x],argTypes:=#[22, 22] } :=by rfl) (hg:o.guard=none:=by rfl)
  (hrp:reads ops.toList i s p=true:=by kernel_rfl) (hr:reads ops.toList i x q=true:=by kernel_rfl):OpOk Tryz.prog Q ops a (i::l) (RowI B W R0 Ls) RowM (nth Fs) i o:=
 OpOk.app0 rfl hg ho hF h0 h1 hLs hm (by have:=hn 1;rw[h1,hLs,ycZ]at this;exact this) hB hp hrp hq hr
theorem OpOk.C {fn:Func} {c:Code} {f:FuncId} {ats:Array TypeId} (hB:B<=W.heap.size) (hF:nth Fs i=StrF m) (hf : Tryz.prog.funcs[f]? =some fn) (hd:Rd ops.toList a Fs i true d u)
  (h:∀w,Below B W w->Calls Tryz.prog f #[u] w fun e w'=>∃u,e=.returned u/\OwnS w' w.heap.size u m/\Below w.heap.size w w')
  (ho:o.op=.call { callee:=.value (.func f),args:=#[.tmp d],argTypes:=ats } :=by rfl) (hname:(fn.name== "runtime.NumGoroutine")=false:=by kernel_rfl) (hb:fn.body=some c:=by rfl) (hi:apps.contains i=false:=by rfl) (hg:o.guard=none:=by rfl):OpOk Tryz.prog Q ops a apps (RowI B W R0 Ls) RowM (nth Fs) i o:=
 OpOk.call hi hg hF hB ho hf hname hb (fun ρ w r k E=>by rw[yIZ,yPZ,yRZ,hd ρ w r k E rfl]) h
theorem OpOk.H {l:List Nat} {fn:Func} {c:Code} {f:FuncId} {ats:Array TypeId} (hB:B<=W.heap.size) (hF:nth Fs i=AppF 0) (hL:Ls 1=m) (hf : Tryz.prog.funcs[f]? =some fn) (hd:Rd ops.toList a Fs i true d u)
  (h:∀w,Below B W w->Calls Tryz.prog f #[u] w fun e w'=>∃u,e=.returned u/\OwnS w' w.heap.size u m/\Below w.heap.size w w')
  (ho:o.op=.call { callee:=.value (.func f),args:=#[.tmp d],argTypes:=ats } :=by rfl) (hname:(fn.name== "runtime.NumGoroutine")=false:=by kernel_rfl) (hb:fn.body=some c:=by rfl) (hg:o.guard=none:=by rfl):OpOk Tryz.prog Q ops a (i::l) (RowI B W R0 Ls) RowM (nth Fs) i o:=
 OpOk.hcall rfl hg hF hB hL ho hf hname hb (fun ρ w r k E=>by rw[yIZ,yPZ,yRZ,hd ρ w r k E rfl]) h
theorem zbbZ {id z j:Nat} {w:World} {l0 ln:List Lx.Bytes} (hF:AllStay RowM Fs) (hB0:Below B W w.drew) (hO0:OwnS w.drew B R0 l0) (h0:Ls 0=l0) (hn:Ls apps.length=ln) (hz:nth Fs z=AppF j)
  (hstep:OpsOk Tryz.prog Q ops a apps (RowI B W R0 Ls) RowM (nth Fs) 0 ops.toList) (hdone:∀(u:Nat->Value) (w':World) (r:Value),Below B W w'->OwnS w' B r ln->u z=r->Q .normal (fillAct u ops.toList 0 a) w')
  (hj:apps.length=j+1:=by rfl) (hzn:decide (z<ops.size)=true:=by kernel_rfl) (hm : Tryz.prog.follows .mixedOrders=true:=by kernel_rfl) (hb:backward ops=true:=by kernel_rfl) (hs:slotsOk ops.toList=true:=by kernel_rfl) (hr:slotsIn ops.toList a.tmps.size=true:=by kernel_rfl) (ha:appsOk apps ops.size=true:=by kernel_rfl) (hch:chained ops.toList apps=true:=by kernel_rfl) :
  (Code.region id ops true).wp Tryz.prog Q a w:=
 zbcZ hm apps _ RowM Fs R0 hb hs hr ha hch hF rfl (RowI.mk0 hB0 hO0 h0) hstep fun u w' r hI hf=>hdone u w' r hI.1 (hI.own hn) ((zbqZ hz (hf z (yBZ hzn))).2 hj).symm
theorem zbeZ {id z j:Nat} {w:World} {l0 ln:List Lx.Bytes} (hF:AllStay RowM Fs) (hB0:Below B W w) (hO0:OwnS w B R0 l0) (h0:Ls 0=l0) (hn:Ls apps.length=ln) (hz:nth Fs z=AppF j)
  (hstep:OpsOk Tryz.prog Q ops a apps (RowI B W R0 Ls) RowM (nth Fs) 0 ops.toList) (hdone:∀(u:Nat->Value) (w':World) (r:Value),Below B W w'->OwnS w' B r ln->u z=r->Q .normal (fillAct u ops.toList 0 a) w')
  (hj:apps.length=j+1:=by rfl) (hzn:decide (z<ops.size)=true:=by kernel_rfl) (hb:backward ops=true:=by kernel_rfl) (hs:slotsOk ops.toList=true:=by kernel_rfl) (hr:slotsIn ops.toList a.tmps.size=true:=by kernel_rfl) (ha:appsOk apps ops.size=true:=by kernel_rfl) (hch:chained ops.toList apps=true:=by kernel_rfl) :
  (Code.region id ops false).wp Tryz.prog Q a w:=
 zwZ apps _ RowM Fs R0 hb hs hr ha hch hF rfl (RowI.mk0 hB0 hO0 h0) hstep fun u w' r hI hf=>hdone u w' r hI.1 (hI.own hn) ((zbqZ hz (hf z (yBZ hzn))).2 hj).symm
end
structure BesideS (cs:Array Value) (L:Nat) (vx:Value) (m:List Lx.Bytes) (w:World) (r:Value):Prop where
 box:w.heap[L]? =some (.cells cs 69 (0,0))
 ne:r.ownBlock≠some L
 row:Str w vx m r
theorem BesideS.mv {cs:Array Value} {L:Nat} {vx:Value} {m:List Lx.Bytes} {w w':World} {r r':Value} (h:BesideS cs L vx m w r) (hm:Mv w r w' r'):BesideS cs L vx m w' r':=by
 have hl:=zaZ h.box;refine⟨(hm.1.block L hl fun e=>h.ne e.symm).trans h.box,fun e=>?_,Str.mv h.row hm⟩;rcases hm.2 L e with h1 | h1
 ·exact h.ne h1
 ·omega
def RowS (cs:Array Value) (L:Nat) (vx:Value) (m:List Lx.Bytes) (B:Nat) (W:World) (R0:Value) (Ls:Nat->List Lx.Bytes):Nat->World->Value->Prop:=fun k w r=>RowI B W R0 Ls k w r/\BesideS cs L vx m w r
section
variable {ops:Array Oper} {Q:Exit->Act->World->Prop} {a:Act} {apps:List Nat} {Fs:List (Value->World->Value->Nat->Prop)} {i:Nat} {o:Oper} {B:Nat} {W:World} {R0:Value} {Ls:Nat->List Lx.Bytes} {cs:Array Value} {L:Nat} {vx:Value} {m:List Lx.Bytes}
theorem OpOk.x (h:OpOk Tryz.prog Q ops a apps (RowI B W R0 Ls) RowM (nth Fs) i o):OpOk Tryz.prog Q ops a apps (RowS cs L vx m B W R0 Ls) RowM (nth Fs) i o:=by
 intro ρ u LL w r k h1 h2 h3 h4 h5 h6 h7 h8 h9 H1 H2 H0 K hK;exact h ρ u LL w r k h1 h2 h3 h4 h5 h6 h7 h8 h9 H1 H2 H0.1 K (zh fun x w' r' hm hi hf=>hK.o x w' r' hm ⟨hi,H0.2.mv hm.1⟩ hf)
theorem OpOk.rx {d:Nat} (hF:nth Fs i=StrF m) (h:Rd ops.toList a Fs i true d vx) (ho:o.op=.move (.tmp d):=by rfl) (hi:apps.contains i=false:=by rfl) (hg:o.guard=none:=by rfl):OpOk Tryz.prog Q ops a apps (RowS cs L vx m B W R0 Ls) RowM (nth Fs) i o:=
 OpOk.plain hi hg fun ρ u LL w r k h1 h2 h3 h4 h5 h6 h7 h8 h9 h10 h11 h12 K hK=>zdgZ (.tmp d) ho (h ρ w r k (Ev.mk' h1 h2 h3 h4 h5 h6 h7 h8 h9 h10) rfl) (hK.o _ _ _ RowM.refl h12 (zboZ hF h12.2.row))
theorem Bx.s:Bx Tryz.prog (RowS cs L vx m B W R0 Ls) 69 ldT L cs:=⟨flS,ldA,fun k w r h=>h.2.box⟩
theorem zfhZ {id z j:Nat} {w:World} {l0 ln:List Lx.Bytes} (hF:AllStay RowM Fs) (hB0:Below B W w.drew) (hO0:OwnS w.drew B R0 l0) (hS0:BesideS cs L vx m w.drew R0) (h0:Ls 0=l0) (hn:Ls apps.length=ln) (hz:nth Fs z=AppF j)
  (hstep:OpsOk Tryz.prog Q ops a apps (RowS cs L vx m B W R0 Ls) RowM (nth Fs) 0 ops.toList) (hdone:∀(u:Nat->Value) (w':World) (r:Value),BesideS cs L vx m w' r->Below B W w'->OwnS w' B r ln->u z=r->Q .normal (fillAct u ops.toList 0 a) w')
  (hj:apps.length=j+1:=by rfl) (hzn:decide (z<ops.size)=true:=by kernel_rfl) (hm : Tryz.prog.follows .mixedOrders=true:=by kernel_rfl) (hb:backward ops=true:=by kernel_rfl) (hs:slotsOk ops.toList=true:=by kernel_rfl) (hr:slotsIn ops.toList a.tmps.size=true:=by kernel_rfl) (ha:appsOk apps ops.size=true:=by kernel_rfl) (hch:chained ops.toList apps=true:=by kernel_rfl) :
  (Code.region id ops true).wp Tryz.prog Q a w:=
 zbcZ hm apps _ RowM Fs R0 hb hs hr ha hch hF rfl ⟨RowI.mk0 hB0 hO0 h0,hS0⟩ hstep fun u w' r hI hf=>hdone u w' r hI.2 hI.1.1 (hI.1.own hn) ((zbqZ hz (hf z (yBZ hzn))).2 hj).symm
end
/-! ### append(row in hand, texts...), where there may be none -/
theorem zivZ {P:Program} (w:World) (t ty e:TypeId) (i:TypeInfo) (ht:P.underlying t=some (.slice e)) (hi:P.info? e=some i) (A:Option Addr) (n c c2:Nat) (hn:n<=c) :
  (Builtin.append_ #[t,t] ty #[.slice A n c,.slice none 0 c2]).run P w=.ok (.slice A n c) w:=by
 simp[Builtin.append_,run_underlying ht,sizeOf,typeInfo,hi,Builtin.lenOf,Builtin.firstCells,hn];cases A <;> simp[storeCells]
theorem zqqZ {w:World} {o:Oper} {ρ:Operand->Value} {K:Value->World->Prop} (s x:Operand)
  (ho:o.op=.call { callee:=.builtin .append,args:=#[s,x],argTypes:=#[22, 22] })
  {B:Nat} {r v:Value} {l m:List Lx.Bytes} (hs:ρ s=r) (hx:ρ x=v) (hown:OwnS w B r l) (hv:Str w v m r) (hn:l.length+m.length<=100000000) (hB:B<=w.heap.size)
  (h:∀r' w',OwnS w' B r' (l++m)->Mv w r w' r'->K r' w'):opWp Tryz.prog o ρ w K:=by
 cases m with
 | cons u m=>exact zjvZ s x ho hs hx hown hv (yVZ _) hn hB h
 | nil=>
  obtain⟨A,c,rfl,hl⟩:=hv
  cases A with
  | some ad=>
   obtain⟨i,hi,hz0,hz1,hz2⟩:=info_parts zdsZ;obtain⟨v',w',hr,h2,h3,h4,h5⟩:=run_append_own_at (P:= Tryz.prog) w B 22 o.type 9 i _ 1 16 Tryz.underlying22 hi hz0 hz1 hz2 rfl (by decide) r l.length (strsV l) hown ad 0 c [] rfl (by intro j u hj;simp at hj) (by intro u hu;cases hu) (by unfold maxLen;omega) (by omega) hB;unfold opWp execOp;simp only[ynZ]at hx;simp only[ho,resolve,invoke,builtin,Sem.run_bind,Sem.run_pure,Result.andThen_ok,yIZ,yPZ,yRZ,hs,hx,hr];refine h v' w' ?_ ⟨h3,fun k hk=>?_⟩
   ·unfold OwnS;rw[List.append_nil];simpa using h2
   ·rcases h5 with h | h
    ·exact .inl (h.symm.trans hk)
    ·right;rw[h]at hk;injection hk with hk;omega
  | none=>
   obtain⟨i,hi,hz0,hz1,hz2⟩:=info_parts zdsZ;have H1:∃A n c,r=.slice A n c/\n<=c:=by
    rcases hown.2 with⟨rfl,h0⟩ | ⟨g,cap,cur,rfl,-,-,hcap,-⟩
    ·exact⟨none,0,0,rfl,ybZ _⟩
    ·exact⟨_,_,cap,rfl,hcap⟩
   obtain⟨A,n,c2,rfl,hnc⟩:=H1;have H0:=zivZ (P:= Tryz.prog) w 22 o.type 9 i Tryz.underlying22 hi A n c2 c hnc;unfold opWp execOp;simp only[ynZ]at hx;simp only[ho,resolve,invoke,builtin,Sem.run_bind,Sem.run_pure,Result.andThen_ok,yIZ,yPZ,yRZ,hs,hx,H0];exact h _ _ (by rw[List.append_nil];exact hown) (Mv.refl _ _)
section
variable {ops:Array Oper} {Q:Exit->Act->World->Prop} {a:Act} {apps:List Nat} {Fs:List (Value->World->Value->Nat->Prop)} {i:Nat} {o:Oper} {B:Nat} {W:World} {R0:Value} {Ls:Nat->List Lx.Bytes}
theorem OpOk.E (s x:Nat) {j p q:Nat} {m l0 l1:List Lx.Bytes} (hB:B<=W.heap.size) (hn:∀k,(Ls k).length<=100000000) (hF:nth Fs i=AppF (j+1)) (h0:Ls (j+1)=l0) (h1:Ls (j+2)=l1) (hp:nth Fs p=AppF j) (hq:nth Fs q=StrF m) (hLs:l1=l0++m:=by rfl)
  (ho:o.op=.call { callee:=.builtin .append,args:=#[.tmp s,.tmp x],argTypes:=#[22, 22] } :=by rfl) (hi:apps[j+1]? =some i:=by rfl) (hg:o.guard=none:=by rfl) (hrp:reads ops.toList i s p=true:=by kernel_rfl) (hr:reads ops.toList i x q=true:=by kernel_rfl):OpOk Tryz.prog Q ops a apps (RowI B W R0 Ls) RowM (nth Fs) i o:=by
 intro ρ u L w r k g1 g2 g3 g4 g5 g6 g7 g8 g9 g10 g11 g12 K hK;have H0:k<=j+1:=by have:=g11 i (j+1) hi;have H1:¬j+1<k:=fun hlt=>g8 (this.2 hlt);omega
 unfold reads at hr hrp;simp only[ygZ,ytZ]at hr hrp;have e1:=g9 p (g6 p hrp.2);have e2:=g9 q (g6 q hr.2);rw[hp]at e1;rw[hq]at e2;obtain rfl:k=j+1:=Nat.le_antisymm H0 e1.1;have hc:apps.contains i=true:=by simpa using List.mem_of_getElem? hi
 rw[zceZ hc]at hK;unfold guarded;rw[hg];obtain⟨hb,how,h00⟩:=g12;rw[h0]at how;refine zqqZ (.tmp s) (.tmp x) ho ((g1 s p hrp.1).trans (e1.2 rfl).symm) (g1 x q hr.1) how e2 (by have:=hn (j+2);rw[h1,hLs,ycZ]at this;exact this) (ymZ hB hb.size) fun r' w' ho' hmv=>?_;refine hK.o _ _ r' ⟨hmv,Nat.le_succ _,fun e=>by omega⟩ ⟨zyZ hb (ymZ hB hb.size) hmv (fun g hg=>(how.lt g hg).1),by rw[h1,hLs];exact ho',fun e=>by omega⟩ ?_;rw[hF];exact⟨ybZ _,fun _=>rfl⟩
end
/-! ### a row in hand beside them, from append to append -/
structure RowAt (cs:Array Value) (L:Nat) (vx:Value) (mx:List Lx.Bytes) (B:Nat) (W:World) (l:List Lx.Bytes) (w:World) (r:Value):Prop where
 own:OwnS w B r l
 bes:BesideS cs L vx mx w r
 b:Below B W w
section
variable {cs:Array Value} {L:Nat} {vx:Value} {mx:List Lx.Bytes} {B:Nat} {W:World} {l:List Lx.Bytes} {w:World} {r:Value}
theorem RowAt.app {w':World} {r':Value} {l':List Lx.Bytes} (h:RowAt cs L vx mx B W l w r) (hB:B<=W.heap.size) (ho:OwnS w' B r' l') (hm:Mv w r w' r'):RowAt cs L vx mx B W l' w' r':=
 ⟨ho,h.bes.mv hm,zyZ h.b (ymZ hB h.b.size) hm fun g hg=>(h.own.lt g hg).1⟩
theorem RowAt.go {w':World} (h:RowAt cs L vx mx B W l w r) (hB:B<=W.heap.size) (hb:Below w.heap.size w w'):RowAt cs L vx mx B W l w' r:=h.app hB (h.own.below hb) (Mv.of_below r hb)
theorem zzZ {ops:Array Oper} {rest:List Oper} {o:Oper} {a:Act} {Q:Exit->Act->World->Prop} (hgd:o.guard=none) (s x:Operand)
  (ho:o.op=.call { callee:=.builtin .append,args:=#[s,x],argTypes:=#[22, 22] }) (hs:a.eval s=r) {m:List Lx.Bytes} {c:Nat} {c0:Array Value} (hx:a.eval x=.slice (some ⟨w.heap.size,0,none⟩) m.length c)
  (H:RowAt cs L vx mx B W l w r) (hc:c0.toList=strsV m) (hm:0<m.length) (hn:l.length+m.length<=100000000) (hB:B<=W.heap.size)
  (h:∀A n' c' w',RowAt cs L vx mx B W (l++m) w' (.slice A n' c')->wpList Tryz.prog ops Q rest (a.put o.dst (.slice A n' c')) w'):wpList Tryz.prog ops Q (o::rest) a (w.alloc (.cells c0 9)):=by
 have ha:=H.go hB ((yqZ _ w).alloc (ybZ _) (.cells c0 9));refine zlZ hgd s x ho hs hx ha.own (Str.arr (ydZ w _) hc fun g hg=>(H.own.lt g hg).2) hm hn (ymZ hB ha.b.size) fun r' w' ho' hmv=>?_;obtain⟨A,c',rfl⟩:=ho'.slice;exact h A _ c' w' (ha.app hB ho' hmv)
theorem zbmZ {ops:Array Oper} {rest:List Oper} {o:Oper} {a:Act} {Q:Exit->Act->World->Prop} (hgd:o.guard=none) (s x:Operand)
  (ho:o.op=.call { callee:=.builtin .append,args:=#[s,x],argTypes:=#[22, 22] }) (hs:a.eval s=r) (hx:a.eval x=vx)
  (H:RowAt cs L vx mx B W l w r) (hm:0<mx.length) (hn:l.length+mx.length<=100000000) (hB:B<=W.heap.size)
  (h:∀A n' c' w',RowAt cs L vx mx B W (l++mx) w' (.slice A n' c')->wpList Tryz.prog ops Q rest (a.put o.dst (.slice A n' c')) w'):wpList Tryz.prog ops Q (o::rest) a w:=by
 refine zlZ hgd s x ho hs hx H.own H.bes.row hm hn (ymZ hB H.b.size) fun r' w' ho' hmv=>?_;obtain⟨A,c',rfl⟩:=ho'.slice;exact h A _ c' w' (H.app hB ho' hmv)
theorem zlyZ {ops:Array Oper} {rest:List Oper} {o:Oper} {a:Act} {Q:Exit->Act->World->Prop} (hgd:o.guard=none) (s x:Operand)
  (ho:o.op=.call { callee:=.builtin .append,args:=#[s,x],argTypes:=#[22, 22] }) (hs:a.eval s=r) {v:Value} {m:List Lx.Bytes} {w0:World} (hx:a.eval x=v)
  (H:RowAt cs L vx mx B W l w0 r) (hv:OwnS w w0.heap.size v m) (hb:Below w0.heap.size w0 w) (hm:0<m.length) (hn:l.length+m.length<=100000000) (hB:B<=W.heap.size)
  (h:∀A n' c' w',RowAt cs L vx mx B W (l++m) w' (.slice A n' c')->wpList Tryz.prog ops Q rest (a.put o.dst (.slice A n' c')) w'):wpList Tryz.prog ops Q (o::rest) a w:=by
 have ha:=H.go hB hb;refine zlZ hgd s x ho hs hx ha.own (Str.of_own hv fun g hg=>(H.own.lt g hg).2) hm hn (ymZ hB ha.b.size) fun r' w' ho' hmv=>?_;obtain⟨A,c',rfl⟩:=ho'.slice;exact h A _ c' w' (ha.app hB ho' hmv)
end
def Sx.pre:Nat->List Sx.Ty->List Lx.Bytes
 | _,[]=>[]
 | i,t::l=>(if 0<i then [[44]]else [])++Sx.typ t++Sx.pre (i+1) l
theorem Sx.pre_append (l:List Sx.Ty):∀(i:Nat) (m:List Sx.Ty),Sx.pre i (l++m)=Sx.pre i l++Sx.pre (i+l.length) m:=by
 induction l with
 | nil=>intro i m;simp[Sx.pre]
 | cons t l ih=>intro i m;rw[yHZ,Sx.pre,Sx.pre,ih,yhZ,show i+1+l.length=i+(l.length+1)by omega];simp
theorem Sx.pre_take {l:List Sx.Ty} {m:Nat} (h:m<l.length):Sx.pre 0 (l.take (m+1))=Sx.pre 0 (l.take m)++(if 0<m then [[44]]else [])++Sx.typ l[m]:=by
 rw[ykZ h,Sx.pre_append,Sx.pre,Sx.pre,List.append_nil,yGZ,yUZ,Nat.min_eq_left (yYZ h),yiZ]
theorem Sx.params_last (t:Sx.Ty) (l:List Sx.Ty):∀i,Sx.params i (l++[t])=Sx.pre i l++([[41]]++Sx.typ t):=by
 induction l with
 | nil=>intro i;simp[Sx.params,Sx.pre]
 | cons u l ih=>intro i;rw[yHZ,Sx.params,Sx.pre,ih];simp
theorem Sx.pre_len:∀(l:List Sx.Ty) (i:Nat),(Sx.pre i l).length<=8 * Sx.sizeL l
 | [],i=>by simp[Sx.pre]
 | t::l,i=>by have h1:=Sx.pre_len l (i+1);have h2:=Sx.typ_len t;rw[Sx.pre,Sx.sizeL];simp only[ycZ];split <;> simp <;> omega
theorem OwnS.one {w:World} {g B:Nat} {s:Lx.Bytes} (h:w.heap[g]? =some (.cells #[.string ⟨s.toArray⟩] 9 (0,0))) (hb:B<=g):OwnS w B (.slice (some ⟨g,0,none⟩) 1 1) [s]:=
 ⟨rfl,.inr ⟨g,1,_,rfl,hb,h,ybZ _,by unfold maxLen;omega,rfl,rfl⟩⟩
def TypedOk (n:Nat):Prop:=∀(t:Sx.Ty),Sx.size t<=n->(∃d,Sx.rightT NM d t=true)->∀(v:Value) (W:World),IsTy W v t->
 Calls Tryz.prog 28 #[v] W fun e W'=>∃u,e=.returned u/\OwnS W' W.heap.size u (Sx.typ t)/\Below W.heap.size W W'
theorem znsZ (n:Nat) (hn:n<=1000000) (ih:TypedOk n) (ps:List Sx.Ty) (hne:0<ps.length) (hsz:Sx.sizeL ps<=n) (hrt:∀t∈ps,∃d,Sx.rightT NM d t=true) (hty1:∀t∈ps,0<(Sx.typ t).length)
  (v:Value) (W:World) (hv:TyRow W v ps) :
  Calls Tryz.prog 69 #[v] W fun e W'=>∃u,e=.returned u/\OwnS W' W.heap.size u ([40]::Sx.params 0 ps)/\Below W.heap.size W W':=by
 obtain⟨Ap,cp,rfl,-,-⟩:=id hv;obtain⟨k,hk⟩:=zE (ps.length);rw[hk]at hv ⊢;have J6:=Sx.length_size ps;have k0:(0:Int)<=(k:Int):=by omega
 have k1:(k:Int)<=1000000:=by omega
 have k2:(1:Int)<=(k:Int):=by omega
 obtain⟨B,hB⟩:=zE (W.heap.size);obtain⟨W1,hW1⟩:=zE (W.alloc (.cells #[.string ⟨#[40]⟩] 9));have J4:Below B W W1:=by rw[<-hW1,<-hB];exact(yqZ _ _).alloc (ybZ _) _
 have Ht:OwnS W1 B (.slice (some ⟨B,0,none⟩) 1 1) [[40]]:=by rw[<-hW1,<-hB];exact OwnS.one (ydZ W _) (ybZ _)
 have Hj:=zh ih;have Jb:=zh hrt;have Ja:=zh hty1;have HP:=zh hv;have HK:=zh hk;have J2:=zh (show Sx.sizeL ps<=n/\n<=1000000 from⟨hsz,hn⟩);have HB:=zh hB;have Jc:=zh J4;have Jd:=zh Ht;clear ih hrt hty1 hv hk hsz hn J4 Ht J6 hne;go_enter Tryz.func69, Tryz.ntmps69;go_wp2_with fail;go_loopg [3,4] k (fun i v3 v4 wr=>∃(m:Nat) (A5:Option Addr) (n5 c5:Nat),i=k-m/\v3=.slice A5 n5 c5/\v4=.int .i64 (m:Nat)/\m+1<=k/\OwnS wr B (.slice A5 n5 c5) ([40]::Sx.pre 0 (ps.take m))/\Below B W wr)
 case atStart=>exact⟨0,some ⟨B,0,none⟩,1,1,rfl,rfl,rfl,by omega,Jd.o,Jc.o⟩
 case round=>
  obtain⟨m,A5,n5,c5,hi,rfl,rfl,hm,ho,hb⟩:=hrel;have HI:=zh hi;have HO:=zh ho;have Hc:=zh hb;have m0:(0:Int)<=(m:Int):=(by omega);have m1:(m:Int)<=1000000:=(by omega);have Ha:m<ps.length:=(by have:=HK.o;omega);have H7:=zh (show([40]::Sx.pre 0 (ps.take m)).length<=10000000 by
   have h1:=Sx.pre_len (ps.take m) 0;have h2:=Sx.sizeL_take_le ps m;have h3:=J2.o;simp only[yhZ];omega)
  clear hi ho hb;obtain⟨g,off,An1,cn1,Ae1,ce1,Aq,cq,rfl,hty,hc5⟩:=HP.o.spot m Ha;have Hk:=Sx.pre_take Ha;have Hs:=Sx.size_mem (yfZ Ha);have Hn:=Jb.o _ (yfZ Ha);have Hl:=Ja.o _ (yfZ Ha);obtain⟨p,hpe⟩:=zE (ps[m]'Ha);rw[hpe]at hty hc5 Hk Hs Hn Hl;have Hh:=zh hc5;have Hz:=zh Hk;have Hi:=zh hty;have H6:=zh (show Sx.size p<=n/\n<=1000000/\0<(Sx.typ p).length by have:=J2.o;exact⟨by omega,this.2,Hl⟩);have Hp:=zh Hn;clear hty hc5 Hk Hs Hn Hl;by_cases hlt:m+1<k
  ·have J1:(m:Int)+1<(k:Int):=(by omega);have Ho:(m:Int)<(k:Int):=(by omega);obtain⟨hg,c0,c1,c2,c3,c4⟩:=Hh.o wr (by rw[HB.o];exact Hc.o);clear hpe;by_cases hz:0<m
   ·have J8:(0:Int)<(m:Int):=(by omega);have Hd:=zh (show([40]::Sx.pre 0 (ps.take m))++[[44]]++Sx.typ p=[40]::Sx.pre 0 (ps.take (m+1))by rw[Hz.o,if_pos hz];simp);clear hz;obtain⟨wa,hwa⟩:=zE (wr.alloc (.cells #[.string ⟨#[44]⟩] 9));have J0:OwnS wa B (.slice A5 n5 c5) ([40]::Sx.pre 0 (ps.take m)):=(by rw[<-hwa];exact HO.o.below ((yqZ _ _).alloc (ybZ _) _));have Hy:Below B W wa:=(by rw[<-hwa];exact Hc.o.alloc (by rw[<-HB.o];exact Hc.o.size) _);have Hu:Str wa (.slice (some ⟨wr.heap.size,0,none⟩) 1 1) [[44]] (.slice A5 n5 c5):=(by rw[<-hwa];exact Str.one (ydZ wr _) (fun q hq=>(HO.o.lt q hq).2));have Hw:=zh J0;have Hr:=zh Hy;have J5:=zh Hu;clear J0 Hy Hu;go_wp2_with (at_builtin;refine zlZ rfl _ _ rfl rfl rfl Hw.o J5.o (by decide) (by have:=H7.o;simp at this ⊢;omega) (by rw[<-HB.o];exact Hr.o.size) ?_;intro r5 w5 hO5 Hx;(have hB5:=zyZ Hr.o (by rw[<-HB.o];exact Hr.o.size) Hx (fun g hg=>(Hw.o.lt g hg).1);clear c0 c1 c2 c3 c4;obtain⟨hg,c0,c1,c2,c3,c4⟩:=Hh.o w5 (by rw[HB.o];exact hB5);have Hv:=zh hO5;have Hq:=zh hB5;clear hO5 hB5 Hx));have He:=Hj.o p H6.o.1 Hp.o _ w5 (IsTy.below (by rw[HB.o];exact Hq.o) _ _ Hi.o);refine He.mono ?_;rintro e w6 ⟨u6,rfl,Hg,H8⟩;have H5:=Str.of_own Hg (fun g hg=>(Hv.o.lt g hg).2);have H3:=Hv.o.below H8;have H2:=Hq.o.trans (H8.mono (by rw[<-HB.o];exact Hq.o.size));have H9:=zh H5;have H4:=zh H3;have H0:=zh H2;clear H5 H3 H2 Hg H8 He;go_wp2_with (at_builtin;refine zlZ rfl _ _ rfl rfl rfl H4.o H9.o H6.o.2.2 (by have:=H7.o;have:=Sx.typ_len p;have:=H6.o;simp at *;omega) (by rw[<-HB.o];exact H0.o.size) ?_;intro r7 w7 hO7 Hb);obtain⟨A7,c7,rfl⟩:=hO7.slice;have hB7:=zyZ H0.o (by rw[<-HB.o];exact H0.o.size) Hb (fun g hg=>(H4.o.lt g hg).1);go_roundg (k-(m+1))
    case measure=>have:=HI.o;omega
    case rel=>exact⟨m+1,A7,_,c7,rfl,rfl,by simp,by omega,by rw[<-Hd.o];exact hO7,hB7⟩
   ·have J8:¬(0:Int)<(m:Int):=(by omega);have Hd:=zh (show([40]::Sx.pre 0 (ps.take m))++Sx.typ p=[40]::Sx.pre 0 (ps.take (m+1))by rw[Hz.o,if_neg hz];simp);clear hz;go_wp2_with fail;have He:=Hj.o p H6.o.1 Hp.o _ wr (IsTy.below (by rw[HB.o];exact Hc.o) _ _ Hi.o);refine He.mono ?_;rintro e w6 ⟨u6,rfl,Hg,H8⟩;have H5:=Str.of_own Hg (fun g hg=>(HO.o.lt g hg).2);have H3:=HO.o.below H8;have H2:=Hc.o.trans (H8.mono (by rw[<-HB.o];exact Hc.o.size));have H9:=zh H5;have H4:=zh H3;have H0:=zh H2;clear H5 H3 H2 Hg H8 He;go_wp2_with (at_builtin;refine zlZ rfl _ _ rfl rfl rfl H4.o H9.o H6.o.2.2 (by have:=H7.o;have:=Sx.typ_len p;have:=H6.o;simp at *;omega) (by rw[<-HB.o];exact H0.o.size) ?_;intro r7 w7 hO7 Hb);obtain⟨A7,c7,rfl⟩:=hO7.slice;have hB7:=zyZ H0.o (by rw[<-HB.o];exact H0.o.size) Hb (fun g hg=>(H4.o.lt g hg).1);go_roundg (k-(m+1))
    case measure=>have:=HI.o;omega
    case rel=>exact⟨m+1,A7,_,c7,rfl,rfl,by simp,by omega,by rw[<-Hd.o];exact hO7,hB7⟩
  ·obtain rfl:k=m+1:=(by omega);have J1:¬(m:Int)+1<((m+1:Nat):Int):=(by omega);have Hf:((m+1:Nat):Int)-1=(m:Int):=(by omega);have J3:IntKind.i64.wrap (((m+1:Nat):Int)-1)=(m:Int):=(by rw[Hf,yQZ];omega);have Ho:(m:Int)<((m+1:Nat):Int):=(by omega);have Hm:=zh (show([40]::Sx.pre 0 (ps.take m))++[[41]]++Sx.typ p=[40]::Sx.params 0 ps by
    have h1:ps=ps.take m++[p]:=by
     conv=>lhs;rw[<-ydbZ m ps]
     rw[List.drop_eq_getElem_cons Ha,hpe,List.drop_of_length_le (by have:=HK.o;omega)]
    conv=>rhs;rw[h1]
    rw[Sx.params_last];simp)
   clear hpe;go_wp2_with fail;clear Hf J1 J3 Ho;have J3:IntKind.i64.wrap (m:Int)=(m:Int):=(by rw[yQZ];omega);have Ho:(m:Int)<(m:Int)+1:=(by omega);have hBle:B<=W.heap.size:=(by rw[HB.o];exact ybZ _);have hB0:Below B W wr.drew:=Hc.o.drew;have hO0:OwnS wr.drew B (.slice A5 n5 c5) ([40]::Sx.pre 0 (ps.take m)):=HO.o;obtain⟨Fs,⟨F0,F1,F2,F3,F4,F5,F6,F7,F8,F9,F10,F11,-⟩,hstay⟩:=zrZ [IsF (.slice A5 n5 c5),StrF [[41]],AppF 0,IsF (.slice (some ⟨g,off,none⟩) (m+1) cp),IsF (.slice (some ⟨g,off,none⟩) (m+1) cp),IsF (.int .i64 ((m:Int)+1)),IsF (.int .i64 (m:Int)),IsF (.pointer (some ⟨g,off+m * 5,none⟩)),IsF (.agg #[.int .i64 p.kind,.string ⟨p.name.toArray⟩,.slice An1 p.names.length cn1,.slice Ae1 p.embeds.length ce1,.slice Aq p.parts.length cq]),StrF (Sx.typ p),AppF 1,AppF 1];obtain⟨Lf,⟨L0,L1,L2,-⟩,hL⟩:=zbdZ (([40]::Sx.pre 0 (ps.take m))) [[[41]],(Sx.typ p)] (by simp only[tot];(have:=H7.o;have:=Sx.typ_len p;have:=H6.o;simp only[ycZ,yhZ,ynZ]at *;omega));refine zbbZ (apps:=[2,10]) hstay hB0 hO0 L0 L2 F11 ?_ ?_
   ·repeat' first | refine OpsOk.cons ?_ ?_ | fail
    ·exact .m F0 (.n 3)
    ·exact .o0 hBle F1
    ·exact .N0 25 26 hBle hL F2 L0 L1 F0 F1
    ·exact .m F3 (.n 0)
    ·exact .m F4 (.n 0)
    ·exact .v1 F5 (.f 29 F4)
    ·exact .v1 F6 (.f 30 F5)
    ·refine OpOk.val rfl rfl F7 RowM.rf fun ρ w r k E hI K hK=>?_;have e28:=E.e 28 3 (by kernel_rfl) F3;have e31:=E.e 31 6 (by kernel_rfl) F6;have H1:=Hh.o w (by rw[HB.o];exact hI.1);have hg:=H1.1;have c0:=H1.2.1;have c1:=H1.2.2.1;have c2:=H1.2.2.2.1;have c3:=H1.2.2.2.2.1;have c4:=H1.2.2.2.2.2;clear H1;go_simp;exact hK
    ·refine OpOk.val rfl rfl F8 RowM.rf fun ρ w r k E hI K hK=>?_;have e32:=E.e 32 7 (by kernel_rfl) F7;have H1:=Hh.o w (by rw[HB.o];exact hI.1);have hg:=H1.1;have c0:=H1.2.1;have c1:=H1.2.2.1;have c2:=H1.2.2.2.1;have c3:=H1.2.2.2.2.1;have c4:=H1.2.2.2.2.2;clear H1;go_simp;exact hK
    ·exact .C hBle F9 Tryz.func28 (.f 33 F8) fun w hb=>Hj.o p H6.o.1 Hp.o _ w (IsTy.below (by rw[HB.o];exact hb) _ _ Hi.o)
    ·exact .N 27 34 hBle hL F10 L1 L2 F2 F9 (hm:=H6.o.2.2)
    ·exact .aa F11 F10 35
    ·exact .nil
   ·intro uq wq rq hBz hOz hz;simp only[yyZ,fillAct,Act.put,yoZ,yzZ,yAZ,hz];clear F0 F1 F2 F3 F4 F5 F6 F7 F8 F9 F10 F11 hstay hL L0 L1 L2 hz;obtain⟨A9,c9,rfl⟩:=hOz.slice;have J7:=zh hOz;have J9:=zh hBz;clear hOz hBz;go_wp2_with fail;go_ret;exact⟨_,rfl,by rw[HB.o,<-Hm.o];exact J7.o,by rw[HB.o];exact J9.o⟩
def TypedIs (t:Sx.Ty) (v:Value) (W:World):Prop:=Calls Tryz.prog 28 #[v] W fun e W'=>∃u,e=.returned u/\OwnS W' W.heap.size u (Sx.typ t)/\Below W.heap.size W W'
theorem Sx.typ_pos {N:Sx.Names} {d:Nat} {t:Sx.Ty} (h:Sx.rightT N d t=true):0<(Sx.typ t).length:=by
 obtain⟨d',rfl,-,hsh⟩:=Sx.right_parts h;rw[Sx.typ_eq];rcases Sx.shape_kind hsh with hk | hk | hk | hk | hk | hk | hk | hk <;> rw[hk] <;> simp
theorem IsTy.row {W:World} {k:Int} {n:Lx.Bytes} {v1 v2:Value} {A:Option Addr} {m c:Nat} {t:Sx.Ty} (h:IsTy W (.agg #[.int .i64 k,.string ⟨n.toArray⟩,v1,v2,.slice A m c]) t):TyRow W (.slice A m c) t.parts:=by
 obtain⟨An,cn,Ae,ce,Ap,cp,he,-,-,hp⟩:=h.agg;injection he with he;simp only[ykbZ,ygbZ,ymbZ]at he;obtain⟨-,-,-,-,he⟩:=he;rw[he];exact hp
theorem zxlZ (n:Nat) (hn:n+1<=1000000) (ih:TypedOk n) (t:Sx.Ty) (hsz0:Sx.size t<=n+1) (hr0:∃d,Sx.rightT NM d t=true) (hkd:t.kind=1) (v:Value) (W:World) (ht:IsTy W v t):TypedIs t v W:=by
 unfold TypedIs;obtain⟨An,cn,Ae,ce,Ap,cp,rfl,hnm,hem,hp⟩:=ht.agg;obtain⟨d,hr⟩:=hr0;obtain⟨d',rfl,hr',hsh⟩:=Sx.right_parts hr;rw[hkd]at hsh ht ⊢;have H4:=Sx.size_parts t;have H1:Sx.sizeL t.parts<=n:=by omega
 have Hf:=Sx.length_size t.parts;have HT:=zh (show Sx.typ t=[[105,110,116]]by rw[Sx.typ_eq,hkd];simp);obtain⟨L,hL⟩:=zE (W.heap.size);obtain⟨w2,hw2⟩:=zE (W.alloc (.cells #[.int .i64 1,.string ⟨t.name.toArray⟩,.slice An t.names.length cn,.slice Ae t.embeds.length ce,.slice Ap t.parts.length cp] 26));have H0:w2.heap[L]? =some (.cells #[.int .i64 1,.string ⟨t.name.toArray⟩,.slice An t.names.length cn,.slice Ae t.embeds.length ce,.slice Ap t.parts.length cp] 26 (0,0)):=by rw[<-hw2,<-hL];exact ydZ W _
 have H2:Below L W w2:=by rw[<-hw2,<-hL];exact(yqZ _ _).alloc (ybZ _) _
 obtain⟨B,hB⟩:=zE (w2.heap.size);have hLB:L<B:=by rw[<-hB];exact zaZ H0
 have H3:=zh (show B<=w2.heap.size by rw[hB];exact ybZ _);have H8:=zh (fun X (h:Below B w2 X)=>(show Below W.heap.size W X by rw[hL];exact H2.trans (h.mono (yYZ hLB))));have H5:=zh (show W.heap.size<=B by rw[hL];exact yYZ hLB);have H6:=zh (show Below B w2 w2 from yqZ _ _);have H7:=zh (fun(s:Lx.Bytes)=>(show OwnS (w2.alloc (.cells #[.string ⟨s.toArray⟩] 9)) B (.slice (some ⟨B,0,none⟩) 1 1) [s]by have:=OwnS.one (B:=B) (s:=s) (ydZ w2 (.cells #[.string ⟨s.toArray⟩] 9)) H3.o;rw[hB]at this;exact this));obtain⟨x0,x1,x2,x3,x4⟩:=zcZ H0;have Hb:=zaZ H0;clear ih hr hr' ht hp hnm hem H4 H1 H0 H2 hsh hkd hsz0 hn;go_enter Tryz.func28, Tryz.ntmps28;go_wp2_with fail;go_ret;exact⟨.slice (some ⟨B,0,none⟩) 1 1,rfl,by rw[HT.o];exact(H7.o [105,110,116]).base_le H5.o,H8.o _ (H6.o.alloc H3.o _)⟩
theorem zxmZ (n:Nat) (hn:n+1<=1000000) (ih:TypedOk n) (t:Sx.Ty) (hsz0:Sx.size t<=n+1) (hr0:∃d,Sx.rightT NM d t=true) (hkd:t.kind=2) (v:Value) (W:World) (ht:IsTy W v t):TypedIs t v W:=by
 unfold TypedIs;obtain⟨An,cn,Ae,ce,Ap,cp,rfl,hnm,hem,hp⟩:=ht.agg;obtain⟨d,hr⟩:=hr0;obtain⟨d',rfl,hr',hsh⟩:=Sx.right_parts hr;rw[hkd]at hsh ht ⊢;have H4:=Sx.size_parts t;have H1:Sx.sizeL t.parts<=n:=by omega
 have Hf:=Sx.length_size t.parts;have HT:=zh (show Sx.typ t=[[98,111,111,108]]by rw[Sx.typ_eq,hkd];simp);obtain⟨L,hL⟩:=zE (W.heap.size);obtain⟨w2,hw2⟩:=zE (W.alloc (.cells #[.int .i64 2,.string ⟨t.name.toArray⟩,.slice An t.names.length cn,.slice Ae t.embeds.length ce,.slice Ap t.parts.length cp] 26));have H0:w2.heap[L]? =some (.cells #[.int .i64 2,.string ⟨t.name.toArray⟩,.slice An t.names.length cn,.slice Ae t.embeds.length ce,.slice Ap t.parts.length cp] 26 (0,0)):=by rw[<-hw2,<-hL];exact ydZ W _
 have H2:Below L W w2:=by rw[<-hw2,<-hL];exact(yqZ _ _).alloc (ybZ _) _
 obtain⟨B,hB⟩:=zE (w2.heap.size);have hLB:L<B:=by rw[<-hB];exact zaZ H0
 have H3:=zh (show B<=w2.heap.size by rw[hB];exact ybZ _);have H8:=zh (fun X (h:Below B w2 X)=>(show Below W.heap.size W X by rw[hL];exact H2.trans (h.mono (yYZ hLB))));have H5:=zh (show W.heap.size<=B by rw[hL];exact yYZ hLB);have H6:=zh (show Below B w2 w2 from yqZ _ _);have H7:=zh (fun(s:Lx.Bytes)=>(show OwnS (w2.alloc (.cells #[.string ⟨s.toArray⟩] 9)) B (.slice (some ⟨B,0,none⟩) 1 1) [s]by have:=OwnS.one (B:=B) (s:=s) (ydZ w2 (.cells #[.string ⟨s.toArray⟩] 9)) H3.o;rw[hB]at this;exact this));obtain⟨x0,x1,x2,x3,x4⟩:=zcZ H0;have Hb:=zaZ H0;clear ih hr hr' ht hp hnm hem H4 H1 H0 H2 hsh hkd hsz0 hn;go_enter Tryz.func28, Tryz.ntmps28;go_wp2_with fail;go_ret;exact⟨.slice (some ⟨B,0,none⟩) 1 1,rfl,by rw[HT.o];exact(H7.o [98,111,111,108]).base_le H5.o,H8.o _ (H6.o.alloc H3.o _)⟩
theorem zxnZ (n:Nat) (hn:n+1<=1000000) (ih:TypedOk n) (t:Sx.Ty) (hsz0:Sx.size t<=n+1) (hr0:∃d,Sx.rightT NM d t=true) (hkd:t.kind=3) (v:Value) (W:World) (ht:IsTy W v t):TypedIs t v W:=by
 unfold TypedIs;obtain⟨An,cn,Ae,ce,Ap,cp,rfl,hnm,hem,hp⟩:=ht.agg;obtain⟨d,hr⟩:=hr0;obtain⟨d',rfl,hr',hsh⟩:=Sx.right_parts hr;rw[hkd]at hsh ht ⊢;have H4:=Sx.size_parts t;have H1:Sx.sizeL t.parts<=n:=by omega
 have Hf:=Sx.length_size t.parts;have HT:=zh (show Sx.typ t=[[116,101,120,116]]by rw[Sx.typ_eq,hkd];simp);obtain⟨L,hL⟩:=zE (W.heap.size);obtain⟨w2,hw2⟩:=zE (W.alloc (.cells #[.int .i64 3,.string ⟨t.name.toArray⟩,.slice An t.names.length cn,.slice Ae t.embeds.length ce,.slice Ap t.parts.length cp] 26));have H0:w2.heap[L]? =some (.cells #[.int .i64 3,.string ⟨t.name.toArray⟩,.slice An t.names.length cn,.slice Ae t.embeds.length ce,.slice Ap t.parts.length cp] 26 (0,0)):=by rw[<-hw2,<-hL];exact ydZ W _
 have H2:Below L W w2:=by rw[<-hw2,<-hL];exact(yqZ _ _).alloc (ybZ _) _
 obtain⟨B,hB⟩:=zE (w2.heap.size);have hLB:L<B:=by rw[<-hB];exact zaZ H0
 have H3:=zh (show B<=w2.heap.size by rw[hB];exact ybZ _);have H8:=zh (fun X (h:Below B w2 X)=>(show Below W.heap.size W X by rw[hL];exact H2.trans (h.mono (yYZ hLB))));have H5:=zh (show W.heap.size<=B by rw[hL];exact yYZ hLB);have H6:=zh (show Below B w2 w2 from yqZ _ _);have H7:=zh (fun(s:Lx.Bytes)=>(show OwnS (w2.alloc (.cells #[.string ⟨s.toArray⟩] 9)) B (.slice (some ⟨B,0,none⟩) 1 1) [s]by have:=OwnS.one (B:=B) (s:=s) (ydZ w2 (.cells #[.string ⟨s.toArray⟩] 9)) H3.o;rw[hB]at this;exact this));obtain⟨x0,x1,x2,x3,x4⟩:=zcZ H0;have Hb:=zaZ H0;clear ih hr hr' ht hp hnm hem H4 H1 H0 H2 hsh hkd hsz0 hn;go_enter Tryz.func28, Tryz.ntmps28;go_wp2_with fail;go_ret;exact⟨.slice (some ⟨B,0,none⟩) 1 1,rfl,by rw[HT.o];exact(H7.o [116,101,120,116]).base_le H5.o,H8.o _ (H6.o.alloc H3.o _)⟩
theorem zxoZ (n:Nat) (hn:n+1<=1000000) (ih:TypedOk n) (t:Sx.Ty) (hsz0:Sx.size t<=n+1) (hr0:∃d,Sx.rightT NM d t=true) (hkd:t.kind=4) (v:Value) (W:World) (ht:IsTy W v t):TypedIs t v W:=by
 unfold TypedIs;obtain⟨An,cn,Ae,ce,Ap,cp,rfl,hnm,hem,hp⟩:=ht.agg;obtain⟨d,hr⟩:=hr0;obtain⟨d',rfl,hr',hsh⟩:=Sx.right_parts hr;rw[hkd]at hsh ht ⊢;have H4:=Sx.size_parts t;have H1:Sx.sizeL t.parts<=n:=by omega
 have Hf:=Sx.length_size t.parts;have HT:=zh (show Sx.typ t=[t.name]by rw[Sx.typ_eq,hkd];simp);obtain⟨L,hL⟩:=zE (W.heap.size);obtain⟨w2,hw2⟩:=zE (W.alloc (.cells #[.int .i64 4,.string ⟨t.name.toArray⟩,.slice An t.names.length cn,.slice Ae t.embeds.length ce,.slice Ap t.parts.length cp] 26));have H0:w2.heap[L]? =some (.cells #[.int .i64 4,.string ⟨t.name.toArray⟩,.slice An t.names.length cn,.slice Ae t.embeds.length ce,.slice Ap t.parts.length cp] 26 (0,0)):=by rw[<-hw2,<-hL];exact ydZ W _
 have H2:Below L W w2:=by rw[<-hw2,<-hL];exact(yqZ _ _).alloc (ybZ _) _
 obtain⟨B,hB⟩:=zE (w2.heap.size);have hLB:L<B:=by rw[<-hB];exact zaZ H0
 have H3:=zh (show B<=w2.heap.size by rw[hB];exact ybZ _);have H8:=zh (fun X (h:Below B w2 X)=>(show Below W.heap.size W X by rw[hL];exact H2.trans (h.mono (yYZ hLB))));have H5:=zh (show W.heap.size<=B by rw[hL];exact yYZ hLB);have H6:=zh (show Below B w2 w2 from yqZ _ _);have H7:=zh (fun(s:Lx.Bytes)=>(show OwnS (w2.alloc (.cells #[.string ⟨s.toArray⟩] 9)) B (.slice (some ⟨B,0,none⟩) 1 1) [s]by have:=OwnS.one (B:=B) (s:=s) (ydZ w2 (.cells #[.string ⟨s.toArray⟩] 9)) H3.o;rw[hB]at this;exact this));obtain⟨x0,x1,x2,x3,x4⟩:=zcZ H0;have Hb:=zaZ H0;clear ih hr hr' ht hp hnm hem H4 H1 H0 H2 hsh hkd hsz0 hn;go_enter Tryz.func28, Tryz.ntmps28;go_wp2_with fail;go_ret;exact⟨.slice (some ⟨B,0,none⟩) 1 1,rfl,by rw[HT.o];exact(H7.o t.name).base_le H5.o,H8.o _ (H6.o.alloc H3.o _)⟩
theorem zxpZ (n:Nat) (hn:n+1<=1000000) (ih:TypedOk n) (t:Sx.Ty) (hsz0:Sx.size t<=n+1) (hr0:∃d,Sx.rightT NM d t=true) (hkd:t.kind=5) (v:Value) (W:World) (ht:IsTy W v t):TypedIs t v W:=by
 unfold TypedIs;obtain⟨An,cn,Ae,ce,Ap,cp,rfl,hnm,hem,hp⟩:=ht.agg;obtain⟨d,hr⟩:=hr0;obtain⟨d',rfl,hr',hsh⟩:=Sx.right_parts hr;rw[hkd]at hsh ht ⊢;have Ho:=Sx.size_parts t;have Hh:Sx.sizeL t.parts<=n:=by omega
 have J3:=Sx.length_size t.parts;have Hc:0<t.parts.length:=by simp[Sx.shape]at hsh;omega
 obtain⟨g,off,An1,cn1,Ae1,ce1,Aq,cq,rfl,hty,hc5⟩:=hp.spot 0 Hc;obtain⟨p,hpe⟩:=zE (t.parts[0]'Hc);have H2:p∈t.parts:=by rw[<-hpe];exact yfZ Hc
 rw[hpe]at hty hc5;have Hn:=zh hty;have Hp:=zh hc5;have Hb:=zh (show Sx.size p<=n/\(∃d,Sx.rightT NM d p=true)/\0<(Sx.typ p).length/\n+1<=1000000 from⟨by have:=Sx.size_mem H2;omega,⟨d',hr' p H2⟩,Sx.typ_pos (hr' p H2),hn⟩);have Hv:(0:Int)<(t.parts.length:Int):=by omega
 have HT:=zh (show Sx.typ t=[42]::Sx.typ p by
  rw[Sx.typ_eq,hkd,Sx.typL_head Hc,hpe];simp)
 have Hq:=zh ih;obtain⟨L,hL⟩:=zE (W.heap.size);obtain⟨w2,hw2⟩:=zE (W.alloc (.cells #[.int .i64 5,.string ⟨t.name.toArray⟩,.slice An t.names.length cn,.slice Ae t.embeds.length ce,.slice (some ⟨g,off,none⟩) t.parts.length cp] 26));have H0:w2.heap[L]? =some (.cells #[.int .i64 5,.string ⟨t.name.toArray⟩,.slice An t.names.length cn,.slice Ae t.embeds.length ce,.slice (some ⟨g,off,none⟩) t.parts.length cp] 26 (0,0)):=by rw[<-hw2,<-hL];exact ydZ W _
 have Hj:Below L W w2:=by rw[<-hw2,<-hL];exact(yqZ _ _).alloc (ybZ _) _
 obtain⟨B,hB⟩:=zE (w2.heap.size);have hLB:L<B:=by rw[<-hB];exact zaZ H0
 have H4:=zh (show B<=w2.heap.size by rw[hB];exact ybZ _);have Hg:=zh (fun X (h:Below B w2 X)=>(show Below W.heap.size W X by rw[hL];exact Hj.trans (h.mono (yYZ hLB))));have Hr:=zh (show W.heap.size<=B by rw[hL];exact yYZ hLB);have Hw:=zh (fun X (h:Below B w2 X)=>(show X.heap[L]? =some (.cells #[.int .i64 5,.string ⟨t.name.toArray⟩,.slice An t.names.length cn,.slice Ae t.embeds.length ce,.slice (some ⟨g,off,none⟩) t.parts.length cp] 26 (0,0))from(h.block L hLB).trans H0));have Hu:=zh (show Below B w2 w2 from yqZ _ _);obtain⟨x0,x1,x2,x3,x4⟩:=zcZ H0;have Hy:=zaZ H0;clear ih hr hr' ht hp hnm hem Ho Hh H0 Hj hsh hkd hsz0 hn hty hc5 hpe H2;go_enter Tryz.func28, Tryz.ntmps28;obtain⟨w3,hw3⟩:=zE (w2.alloc (.cells #[.string ⟨#[42]⟩] 9));have H8:Below B w2 w3:=by rw[<-hw3];exact Hu.o.alloc H4.o _
 have Hi:OwnS w3 B (.slice (some ⟨B,0,none⟩) 1 1) [[42]]:=by rw[<-hw3];have:=OwnS.one (B:=B) (ydZ w2 (.cells #[.string ⟨#[42]⟩] 9)) H4.o;rw[hB]at this;exact this
 have H1:=Hw.o w3 H8;obtain⟨y0,y1,y2,y3,y4⟩:=zcZ H1;have Hz:=zaZ H1;have Hl:=zh Hi;have Hm:=zh H8;obtain⟨hg5,d0,d1,d2,d3,d4⟩:=Hp.o w3 (Hg.o _ H8);rw[yrZ,ypZ]at d0 d1 d2 d3 d4;have Hf:=zh (show B<=w3.heap.size from ymZ H4.o H8.size);clear H8 Hi H1;go_wp2_with (first
  | (go_at_call 28;refine(Hq.o p Hb.o.1 Hb.o.2.1 _ w3 (IsTy.below (Hg.o w3 Hm.o) _ _ Hn.o)).mono ?_;rintro e w6 ⟨u6,rfl,Hk,Hd⟩;have H5:=Str.of_own Hk (fun g hg=>(Hl.o.lt g hg).2);have H7:=Hl.o.below Hd;have H6:=Hm.o.trans (Hd.mono Hf.o);have He:=zh H5;have H9:=zh H7;have H3:=zh H6;clear H5 H7 H6 Hk Hd)
  | (at_builtin;refine zlZ rfl _ _ rfl rfl rfl H9.o He.o (Hb.o.2.2.1) (by have:=Hb.o;have:=Sx.typ_len p;simp;omega) (ymZ H4.o H3.o.size) ?_;intro r7 w7 hO7 Ha))
 have hB7:=zyZ H3.o (ymZ H4.o H3.o.size) Ha (fun g hg=>(H9.o.lt g hg).1);have Hs:=zh hO7;have Ht:=zh hB7;clear hO7 hB7 Ha;go_ret;exact⟨_,rfl,by rw[HT.o];exact Hs.o.base_le Hr.o,Hg.o _ Ht.o⟩
theorem zxqZ (n:Nat) (hn:n+1<=1000000) (ih:TypedOk n) (t:Sx.Ty) (hsz0:Sx.size t<=n+1) (hr0:∃d,Sx.rightT NM d t=true) (hkd:t.kind=7) (v:Value) (W:World) (ht:IsTy W v t):TypedIs t v W:=by
 unfold TypedIs;obtain⟨An,cn,Ae,ce,Ap,cp,rfl,hnm,hem,hp⟩:=ht.agg;obtain⟨d,hr⟩:=hr0;obtain⟨d',rfl,hr',hsh⟩:=Sx.right_parts hr;rw[hkd]at hsh ht ⊢;have Hm:=Sx.size_parts t;have He:Sx.sizeL t.parts<=n:=by omega
 have Hz:=Sx.length_size t.parts;have Hi:0<t.parts.length:=by simp[Sx.shape]at hsh;omega
 have Hp:=zh Hi;have HT:=zh (show Sx.typ t=[102,110]::([40]::Sx.params 0 t.parts)by rw[Sx.typ_eq,hkd];simp);have Hn:=zh ih;have HR:=zh hr';have Hc:=zh (show Sx.sizeL t.parts<=n/\n+1<=1000000 from⟨He,hn⟩);obtain⟨L,hL⟩:=zE (W.heap.size);obtain⟨w2,hw2⟩:=zE (W.alloc (.cells #[.int .i64 7,.string ⟨t.name.toArray⟩,.slice An t.names.length cn,.slice Ae t.embeds.length ce,.slice Ap t.parts.length cp] 26));have H0:w2.heap[L]? =some (.cells #[.int .i64 7,.string ⟨t.name.toArray⟩,.slice An t.names.length cn,.slice Ae t.embeds.length ce,.slice Ap t.parts.length cp] 26 (0,0)):=by rw[<-hw2,<-hL];exact ydZ W _
 have Hg:Below L W w2:=by rw[<-hw2,<-hL];exact(yqZ _ _).alloc (ybZ _) _
 obtain⟨B,hB⟩:=zE (w2.heap.size);have hLB:L<B:=by rw[<-hB];exact zaZ H0
 have H3:=zh (show B<=w2.heap.size by rw[hB];exact ybZ _);have Hh:=zh (fun X (h:Below B w2 X)=>(show Below W.heap.size W X by rw[hL];exact Hg.trans (h.mono (yYZ hLB))));have Ho:=zh (show W.heap.size<=B by rw[hL];exact yYZ hLB);have Ht:=zh (fun X (h:Below B w2 X)=>(show X.heap[L]? =some (.cells #[.int .i64 7,.string ⟨t.name.toArray⟩,.slice An t.names.length cn,.slice Ae t.embeds.length ce,.slice Ap t.parts.length cp] 26 (0,0))from(h.block L hLB).trans H0));have Hs:=zh (show Below B w2 w2 from yqZ _ _);have HP:=zh hp;obtain⟨x0,x1,x2,x3,x4⟩:=zcZ H0;have Hv:=zaZ H0;clear ih hr hr' ht hp hnm hem Hm He H0 Hg hsh hkd hsz0 hn Hi;go_enter Tryz.func28, Tryz.ntmps28;obtain⟨w3,hw3⟩:=zE (w2.alloc (.cells #[.string ⟨#[102,110]⟩] 9));have H9:Below B w2 w3:=by rw[<-hw3];exact Hs.o.alloc H3.o _
 have Hf:OwnS w3 B (.slice (some ⟨B,0,none⟩) 1 1) [[102,110]]:=by rw[<-hw3];have:=OwnS.one (B:=B) (ydZ w2 (.cells #[.string ⟨#[102,110]⟩] 9)) H3.o;rw[hB]at this;exact this
 have H1:=Ht.o w3 H9;obtain⟨y0,y1,y2,y3,y4⟩:=zcZ H1;have Hw:=zaZ H1;have Hk:=zh Hf;have Hl:=zh H9;have Hd:=zh (show B<=w3.heap.size from ymZ H3.o H9.size);clear H9 Hf H1;go_wp2_with (first
  | (go_at_call 69;refine(znsZ n (by have:=Hc.o;omega) Hn.o t.parts Hp.o Hc.o.1 (fun p hm=>⟨_,HR.o p hm⟩) (fun p hm=>Sx.typ_pos (HR.o p hm)) _ w3 (HP.o.below (Hh.o w3 Hl.o))).mono ?_;rintro e w6 ⟨u6,rfl,Hj,Ha⟩;have H4:=Str.of_own Hj (fun g hg=>(Hk.o.lt g hg).2);have H6:=Hk.o.below Ha;have H5:=Hl.o.trans (Ha.mono Hd.o);have Hb:=zh H4;have H7:=zh H6;have H2:=zh H5;clear H4 H6 H5 Hj Ha)
  | (at_builtin;refine zlZ rfl _ _ rfl rfl rfl H7.o Hb.o (by simp) (by have:=Hc.o;have:=Sx.params_len 0 t.parts;simp;omega) (ymZ H3.o H2.o.size) ?_;intro r7 w7 hO7 H8))
 have hB7:=zyZ H2.o (ymZ H3.o H2.o.size) H8 (fun g hg=>(H7.o.lt g hg).1);have Hq:=zh hO7;have Hr:=zh hB7;clear hO7 hB7 H8;go_ret;exact⟨_,rfl,by rw[HT.o];exact Hq.o.base_le Ho.o,Hh.o _ Hr.o⟩
end Go.Proofs.YtdncljdfmdgdaaaGreatDoor
