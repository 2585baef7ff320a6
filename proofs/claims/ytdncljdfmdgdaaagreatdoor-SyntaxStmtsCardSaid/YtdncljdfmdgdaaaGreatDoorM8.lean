/-
  The end of every law of this chapter: true, and the arguments as they were.
-/
import Derived.Test.YtdncljdfmdgdaaaGreatDoorM7
set_option linter.unusedSimpArgs false
set_option linter.unusedVariables false
set_option maxRecDepth 1000000
set_option maxHeartbeats 8000000
namespace Go.Proofs.YtdncljdfmdgdaaaGreatDoor
open Go Go.ChangeShapes Go.WideShapes Go.ChangeAt Go.RowKit
theorem zsfZ:laidOutB Tryz.prog=true:=by kernel_rfl
theorem zkfZ {H:Type} {enc:TypeId×Value->H} {P:Program} (hl:laidOutB P=true) {W W':World} (hb:Below W.heap.size W W'):∀ {ts:List TypeId} {vs:List Value} {ds:List (DataW H)} {p:List MemPlace},
  (ts.all fun t=>P.readableRec t&&decide (t<P.types.size))=true->DataW.TrodAll enc P W 0 (fun _=>true) true ts vs ds p->(∀x∈p,x.block<W.heap.size)->
  DataW.TrodAll enc P W' 0 (fun b=>decide (b<W.heap.size)) true ts vs ds p:=by
 intro ts
 induction ts with
 | nil=>intro vs ds p _ h _;obtain⟨rfl,rfl,rfl⟩:=trodAll_nil h;exact trodAll_mk0
 | cons t ts ih=>intro vs ds p ht h H0;obtain⟨v,vs',d,ds',p1,p2,rfl,rfl,rfl,h1,h2⟩:=trodAll_cons h;rw[List.all_cons,ygZ,ygZ]at ht;exact⟨p1,p2,Below.trod hl ht.1.1 (yBZ ht.1.2) h1 hb (fun x hx=>H0 x (by simp[hx])),ih ht.2 h2 (fun x hx=>H0 x (by simp[hx])),rfl⟩
theorem zwnZ {H:Type} {enc:TypeId×Value->H} {f:Func} {s:ChangeSpec} {W W':World} {args:Array Value} {ds:List (DataW H)} {before:List MemPlace}
  (hv:s.vars=[]) (hr:f.resultTypes=#[4]) (hps:(f.params.toList.all fun t=> Tryz.prog.readableRec t&&decide (t < Tryz.prog.types.size))=true)
  (hfn:s.fn H ds={ results:=[.lit (.bool true)],args:=ds })
  (hW:DataW.Whole enc Tryz.prog f.params.toList s.vars false W args.toList ds [] before) (hb:Below W.heap.size W W') :
  s.post enc Tryz.prog f false true false false W args (.bool true) W':=by
 have hW':=hW;obtain⟨p,q,hA,hV,rfl,hz,hn⟩:=hW;rw[hv]at hV;obtain rfl:q=[]:=hV;have H0:∀x∈p,x.block<W.heap.size:=fun x hx=>by simpa using hW'.lt x (by simpa using hx)
 have e:s.fn H (ds++[])={ results:=[.lit (.bool true)],args:=ds } :=by rw[List.append_nil];exact hfn
 refine⟨ds,[],_,[],p,[],hW',?_,?_,?_,hb.frame _,fun h=>by cases h⟩
 ·rw[e,hr];exact trodAll_mk1 (shut_bool Tryz.underlying4 true)
 ·rw[e];exact zkfZ zsfZ hb hps hA H0
 ·rw[e,hv];rfl
end Go.Proofs.YtdncljdfmdgdaaaGreatDoor
namespace Go.Proofs.YtdncljdfmdgdaaaGreatDoor
open Go.ChangeShapes Go.WideShapes Go.ChangeAt Go.RowKit
theorem zodZ {n:Int} (h:(Lit.int .i64 n).wf=true):-9223372036854775808<=n/\n<=9223372036854775807:=by
 simp only[Lit.wf,ygZ,yCZ]at h;exact h
theorem zbxZ {α:Type} {P:Nat->α->Prop} : ∀(n:Nat),(∀i,i<n->∃x,P i x)->∃l:List α,l.length=n/\∀i (h:i<l.length),P i (l[i]'h)
 | 0,_=>⟨[],rfl,fun i h=>by simp at h⟩
 | n+1,h=>by
  obtain⟨l,hl,hp⟩:=zbxZ n (fun i hi=>h i (by omega));obtain⟨x,hx⟩:=h n (by omega);refine⟨l++[x],by simp[hl],fun i hi=>?_⟩;by_cases hin:i<l.length
  ·rw[List.getElem_append_left hin];exact hp i hin
  ·have:i=n:=(by simp at hi;omega);subst this;rw[List.getElem_append_right (by omega)];simpa[hl]using hx
def TokAt (w:World) (b o:Nat) (t:Lx.Tok):Prop:=
 w.cell? ⟨b,o,none⟩=some (.int .i64 t.pos)/\w.cell? ⟨b,o+1,none⟩=some (.int .i64 t.kind)/\w.cell? ⟨b,o+2,none⟩=some (.string ⟨t.s.toArray⟩)/\w.cell? ⟨b,o+3,none⟩=some (.int .i64 t.n)/\
  -9223372036854775808<=t.n/\t.n<=9223372036854775807
theorem fP0:(Tryz.prog.fieldsOf 36)[0]?.map (fun f=>(f.type,f.offset))=some (3,0):=by kernel_rfl
theorem uP : Tryz.prog.underlying 36 =some (.struct (Tryz.prog.fieldsOf 36)):=by kernel_rfl
theorem cT : Tryz.prog.cellsOf 133 =4:=by kernel_rfl
theorem cP : Tryz.prog.cellsOf 36 =1:=by kernel_rfl
theorem cI : Tryz.prog.cellsOf 3 =1:=by kernel_rfl
theorem cS : Tryz.prog.cellsOf 9 =1:=by kernel_rfl
theorem zclZ (b off n:Nat):(⟨b,off,none⟩:Addr).add n=⟨b,off+n,none⟩:=by
 unfold Addr.add;split <;> simp_all
end Go.Proofs.YtdncljdfmdgdaaaGreatDoor
namespace Go.Proofs.YtdncljdfmdgdaaaGreatDoor.Sx
open Go.Proofs.YtdncljdfmdgdaaaGreatDoor.Lx (Bytes)
inductive Ty where
 | mk (kind:Int) (name:Bytes) (names:List Bytes) (embeds:List Bool) (parts:List Ty)
def Ty.kind:Ty->Int | .mk k _ _ _ _=>k
def Ty.name:Ty->Bytes | .mk _ n _ _ _=>n
def Ty.names:Ty->List Bytes | .mk _ _ ns _ _=>ns
def Ty.embeds:Ty->List Bool | .mk _ _ _ es _=>es
def Ty.parts:Ty->List Ty | .mk _ _ _ _ ps=>ps
mutual
def depth:Ty->Nat
 | .mk _ _ _ _ ps=>1+depthL ps
def depthL:List Ty->Nat
 | []=>0
 | t::l=>max (depth t) (depthL l)
end
mutual
def nodes:Ty->Nat
 | .mk k _ _ _ ps=>(if k=4 then 0 else 1)+nodesL ps
def nodesL:List Ty->Nat
 | []=>0
 | t::l=>nodes t+nodesL l
end
mutual
def allNames:Ty->List Bytes
 | .mk k n _ _ ps=>(if k=4 then [n]else [])++allNamesL ps
def allNamesL:List Ty->List Bytes
 | []=>[]
 | t::l=>allNames t++allNamesL l
end
def once:List Bytes->List Bytes->List Bytes
 | acc,[]=>acc
 | acc,s::l=>if acc.contains s then once acc l else once (acc++[s]) l
mutual
def size:Ty->Nat
 | .mk _ n ns es ps=>1+n.length+ns.length+es.length+(ns.map List.length).sum+sizeL ps
def sizeL:List Ty->Nat
 | []=>0
 | t::l=>size t+sizeL l
end
theorem depth_parts (t:Ty):depth t=1+depthL t.parts:=by cases t;rw[depth];rfl
theorem nodes_parts (t:Ty):nodes t=(if t.kind=4 then 0 else 1)+nodesL t.parts:=by cases t;rw[nodes];rfl
theorem names_parts (t:Ty):allNames t=(if t.kind=4 then [t.name]else [])++allNamesL t.parts:=by cases t;rw[allNames];rfl
theorem zdhZ:∀(l m:List Ty),nodesL (l++m)=nodesL l+nodesL m
 | [],m=>by simp[nodesL]
 | t::l,m=>by rw[yHZ,nodesL,nodesL,zdhZ l m];omega
theorem zdiZ:∀(l m:List Ty),depthL (l++m)=max (depthL l) (depthL m)
 | [],m=>by simp[depthL]
 | t::l,m=>by rw[yHZ,depthL,depthL,zdiZ l m];omega
theorem namesL_append:∀(l m:List Ty),allNamesL (l++m)=allNamesL l++allNamesL m
 | [],m=>by simp[allNamesL]
 | t::l,m=>by rw[yHZ,allNamesL,allNamesL,namesL_append l m,yiZ]
theorem once_append:∀(a l m:List Bytes),once a (l++m)=once (once a l) m
 | a,[],m=>rfl
 | a,s::l,m=>by
  rw[yHZ,once,once];split
  ·exact once_append a l m
  ·exact once_append _ l m
/-! ### what is written -/
structure Wr where
 b:Bytes
 n:Nat
def put (w:Wr) (s:Bytes):Wr:=⟨if 65536<w.b.length then w.b else(if 0<w.b.length then w.b++[32]else w.b)++s,w.n+1⟩
def puts (w:Wr) (l:List Bytes):Wr:=l.foldl put w
theorem puts_append (w:Wr) (l m:List Bytes):puts w (l++m)=puts (puts w l) m:=by unfold puts;rw[List.foldl_append]
def told (right:Bool) (w:Wr):Bytes×Nat:=
 if !right then([],1)else if 65536<w.b.length then([],2)else if 4096<w.n then([],3)else(w.b,0)
mutual
def typ:Ty->List Bytes
 | .mk k n ns es ps=>
  if k=1 then [[105,110,116]]
  else if k=2 then [[98,111,111,108]]
  else if k=3 then [[116,101,120,116]]
  else if k=4 then [n]
  else if k=5 then [42]::typL ps
  else if k=6 then [[123]]++fields ns es ps++[[125]]
  else if k=7 then [[102,110]]++([[40]]++params 0 ps)
  else if k=8 then [[105,110,116,101,114,102,97,99,101],[123]]++methods ns ps++[[125]]
  else []
def typL:List Ty->List Bytes
 | []=>[]
 | t::_=>typ t
def fields:List Bytes->List Bool->List Ty->List Bytes
 | n::ns,e::es,t::ps=>(if e then [[101,109,98,101,100]]else [])++([n]++typ t++[[59]])++fields ns es ps
 | _,_,_=>[]
def params:Nat->List Ty->List Bytes
 | _,[]=>[]
 | i,t::l=>if l.isEmpty then [[41]]++typ t else(if 0<i then [[44]]else [])++typ t++params (i+1) l
def methods:List Bytes->List Ty->List Bytes
 | n::ns,t::ps=>[n]++signature t++[[59]]++methods ns ps
 | _,_=>[]
def signature:Ty->List Bytes
 | .mk _ _ _ _ ps=>[[40]]++params 0 ps
end
end Go.Proofs.YtdncljdfmdgdaaaGreatDoor.Sx
namespace Go.Proofs.YtdncljdfmdgdaaaGreatDoor
open Go.RowKit
def StrRow (W:World) (v:Value) (ns:List Lx.Bytes):Prop:=
 ∃A c,v=.slice A ns.length c/\∀i (h:i<ns.length),∃g off,A=some ⟨g,off,none⟩/\W.cell? ⟨g,off+i,none⟩=some (.string ⟨(ns[i]'h).toArray⟩)
def BoolRow (W:World) (v:Value) (es:List Bool):Prop:=
 ∃A c,v=.slice A es.length c/\∀i (h:i<es.length),∃g off,A=some ⟨g,off,none⟩/\W.cell? ⟨g,off+i,none⟩=some (.bool (es[i]'h))
mutual
def IsTy (W:World):Value->Sx.Ty->Prop
 | v,.mk k nm ns es ps=>∃vn ve A c,v=.agg #[.int .i64 k,.string ⟨nm.toArray⟩,vn,ve,.slice A ps.length c]/\StrRow W vn ns/\BoolRow W ve es/\ps.length<=c/\IsTys W A 0 ps
def IsTys (W:World) (A:Option Addr):Nat->List Sx.Ty->Prop
 | _,[]=>True
 | i,t::l=>(∃g off v0 v1 v2 v3 v4,A=some ⟨g,off,none⟩/\W.cell? ⟨g,off+i * 5,none⟩=some v0/\W.cell? ⟨g,off+i * 5+1,none⟩=some v1/\W.cell? ⟨g,off+i * 5+2,none⟩=some v2/\
   W.cell? ⟨g,off+i * 5+3,none⟩=some v3/\W.cell? ⟨g,off+i * 5+4,none⟩=some v4/\IsTy W (.agg #[v0,v1,v2,v3,v4]) t)/\IsTys W A (i+1) l
end
def TyRow (W:World) (v:Value) (l:List Sx.Ty):Prop:=∃A c,v=.slice A l.length c/\l.length<=c/\IsTys W A 0 l
theorem StrRow.below {W W':World} {v:Value} {ns:List Lx.Bytes} (h:StrRow W v ns) (hb:Below W.heap.size W W'):StrRow W' v ns:=by
 obtain⟨A,c,rfl,hi⟩:=h;refine⟨A,c,rfl,fun i hl=>?_⟩;obtain⟨g,off,hA,hc⟩:=hi i hl;exact⟨g,off,hA,(World.cell?_of_block (hb.block g (World.block_lt_of_cell? W ⟨g,off+i,none⟩ hc))).trans hc⟩
theorem BoolRow.below {W W':World} {v:Value} {es:List Bool} (h:BoolRow W v es) (hb:Below W.heap.size W W'):BoolRow W' v es:=by
 obtain⟨A,c,rfl,hi⟩:=h;refine⟨A,c,rfl,fun i hl=>?_⟩;obtain⟨g,off,hA,hc⟩:=hi i hl;exact⟨g,off,hA,(World.cell?_of_block (hb.block g (World.block_lt_of_cell? W ⟨g,off+i,none⟩ hc))).trans hc⟩
mutual
theorem IsTy.below {W W':World} (hb:Below W.heap.size W W'):∀(t:Sx.Ty) (v:Value),IsTy W v t->IsTy W' v t
 | .mk k nm ns es ps,v,h=>by rw[IsTy]at h ⊢;obtain⟨vn,ve,A,c,hv,h1,h2,h4,h3⟩:=h;exact⟨vn,ve,A,c,hv,h1.below hb,h2.below hb,h4,IsTys.below hb ps A 0 h3⟩
theorem IsTys.below {W W':World} (hb:Below W.heap.size W W'):∀(l:List Sx.Ty) (A:Option Addr) (i:Nat),IsTys W A i l->IsTys W' A i l
 | [],A,i,h=>by rw[IsTys];trivial
 | t::l,A,i,h=>by rw[IsTys]at h ⊢;obtain⟨⟨g,off,v0,v1,v2,v3,v4,hA,h0,h1,h2,h3,h4,ht⟩,hl⟩:=h;have hc:∀ {j:Nat} {u:Value},W.cell? ⟨g,j,none⟩=some u->W'.cell? ⟨g,j,none⟩=some u:=fun {j u} hj=>(World.cell?_of_block (hb.block g (World.block_lt_of_cell? W ⟨g,j,none⟩ hj))).trans hj;exact⟨⟨g,off,v0,v1,v2,v3,v4,hA,hc h0,hc h1,hc h2,hc h3,hc h4,IsTy.below hb t _ ht⟩,IsTys.below hb l A (i+1) hl⟩
end
theorem TyRow.below {W W':World} {v:Value} {l:List Sx.Ty} (h:TyRow W v l) (hb:Below W.heap.size W W'):TyRow W' v l:=by
 obtain⟨A,c,rfl,hc,hl⟩:=h;exact⟨A,c,rfl,hc,IsTys.below hb l A 0 hl⟩
theorem IsTys.at {W:World} {A:Option Addr} : ∀ {l:List Sx.Ty} {k:Nat},IsTys W A k l->∀(m:Nat) (h:m<l.length),∃g off v0 v1 v2 v3 v4,A=some ⟨g,off,none⟩/\W.cell? ⟨g,off+(k+m) * 5,none⟩=some v0/\W.cell? ⟨g,off+(k+m) * 5+1,none⟩=some v1/\
  W.cell? ⟨g,off+(k+m) * 5+2,none⟩=some v2/\W.cell? ⟨g,off+(k+m) * 5+3,none⟩=some v3/\W.cell? ⟨g,off+(k+m) * 5+4,none⟩=some v4/\IsTy W (.agg #[v0,v1,v2,v3,v4]) (l[m]'h)
 | t::l,k,h,0,hm=>by rw[IsTys]at h;exact h.1
 | t::l,k,h,m+1,hm=>by rw[IsTys]at h;have:=IsTys.at h.2 m (by simpa using hm);rw[show k+1+m=k+(m+1)by omega]at this;exact this
theorem IsTy.limbs {W:World} {v:Value} {t:Sx.Ty} (h:IsTy W v t):∃vn ve vp,v=.agg #[.int .i64 t.kind,.string ⟨t.name.toArray⟩,vn,ve,vp]/\StrRow W vn t.names/\BoolRow W ve t.embeds/\TyRow W vp t.parts:=by
 cases t with
 | mk k nm ns es ps=>rw[IsTy]at h;obtain⟨vn,ve,A,c,hv,h1,h2,h4,h3⟩:=h;exact⟨vn,ve,_,hv,h1,h2,A,c,rfl,h4,h3⟩
end Go.Proofs.YtdncljdfmdgdaaaGreatDoor
namespace Go.Proofs.YtdncljdfmdgdaaaGreatDoor.Sx
open Go.Proofs.YtdncljdfmdgdaaaGreatDoor.Lx (Bytes)
theorem size_parts (t:Ty):size t=1+t.name.length+t.names.length+t.embeds.length+(t.names.map List.length).sum+sizeL t.parts:=by cases t;rw[size];rfl
theorem size_pos (t:Ty):1<=size t:=by rw[size_parts];omega
theorem size_mem:∀ {l:List Ty} {t:Ty},t∈l->size t<=sizeL l
 | u::l,t,h=>by
  rw[sizeL];rcases yTZ.1 h with rfl | h
  ·omega
  ·have:=size_mem h;omega
theorem parts_mem {l:List Ty} {t:Ty} (h:t∈l):sizeL t.parts<sizeL l:=by
 have h1:=size_mem h;have h2:=size_parts t;omega
theorem length_size:∀(l:List Ty),l.length<=sizeL l
 | []=>by simp[sizeL]
 | t::l=>by rw[sizeL,yhZ];have:=length_size l;have:=size_pos t;omega
mutual
theorem zoeZ:∀(t:Ty),nodes t<=size t
 | .mk k n ns es ps=>by rw[nodes,size];have:=nodesL_size ps;split <;> omega
theorem nodesL_size:∀(l:List Ty),nodesL l<=sizeL l
 | []=>by simp[nodesL]
 | t::l=>by rw[nodesL,sizeL];have:=zoeZ t;have:=nodesL_size l;omega
end
mutual
theorem zofZ:∀(t:Ty),depth t<=size t
 | .mk k n ns es ps=>by rw[depth,size];have:=depthL_size ps;omega
theorem depthL_size:∀(l:List Ty),depthL l<=sizeL l
 | []=>by simp[depthL]
 | t::l=>by rw[depthL,sizeL];have:=zofZ t;have:=depthL_size l;omega
end
theorem zdvZ:∀(l m:List Ty),sizeL (l++m)=sizeL l+sizeL m
 | [],m=>by simp[sizeL]
 | t::l,m=>by rw[yHZ,sizeL,sizeL,zdvZ l m];omega
theorem nodes_take {l:List Ty} {m:Nat} (h:m<l.length):nodesL (l.take (m+1))=nodesL (l.take m)+nodes l[m]:=by
 rw[ykZ h,zdhZ];simp[nodesL]
theorem depth_take {l:List Ty} {m:Nat} (h:m<l.length):depthL (l.take (m+1))=max (depthL (l.take m)) (depth l[m]):=by
 rw[ykZ h,zdiZ];simp[depthL]
theorem size_take {l:List Ty} {m:Nat} (h:m<l.length):sizeL (l.take (m+1))=sizeL (l.take m)+size l[m]:=by
 rw[ykZ h,zdvZ];simp[sizeL]
theorem nodesL_take_le (l:List Ty) (m:Nat):nodesL (l.take m)<=nodesL l:=by
 conv=>rhs;rw[<-ydbZ m l,zdhZ]
 omega
theorem depthL_take_le (l:List Ty) (m:Nat):depthL (l.take m)<=depthL l:=by
 conv=>rhs;rw[<-ydbZ m l,zdiZ]
 omega
theorem sizeL_take_le (l:List Ty) (m:Nat):sizeL (l.take m)<=sizeL l:=by
 conv=>rhs;rw[<-ydbZ m l,zdvZ]
 omega
end Go.Proofs.YtdncljdfmdgdaaaGreatDoor.Sx
namespace Go.Proofs.YtdncljdfmdgdaaaGreatDoor
open Go.RowKit Go.WideMaps
theorem Sx.mem_once:∀(l acc:List Lx.Bytes) (s:Lx.Bytes),s∈Sx.once acc l↔s∈acc\/s∈l
 | [],acc,s=>by simp[Sx.once]
 | x::l,acc,s=>by
  rw[Sx.once];split
  ·rename_i h;rw[Sx.mem_once l acc s,yTZ];have hx:x∈acc:=(by simpa using h);constructor
   ·rintro(h | h)
    ·exact .inl h
    ·exact .inr (.inr h)
   ·rintro(h | rfl | h)
    ·exact .inl h
    ·exact .inl hx
    ·exact .inr h
  ·rw[Sx.mem_once l _ s];simp[or_assoc]
theorem Sx.once_new {l:List Lx.Bytes} {s:Lx.Bytes} (h:l.count s=0):Sx.once [] (l++[s])=Sx.once [] l++[s]:=by
 rw[Sx.once_append,Sx.once,if_neg,Sx.once];intro h';have:=(Sx.mem_once l [] s).1 (by simpa using h');rcases this with h1 | h1
 ·cases h1
 ·exact List.count_eq_zero.1 h h1
theorem Sx.once_old {l:List Lx.Bytes} {s:Lx.Bytes} (h:0<l.count s):Sx.once [] (l++[s])=Sx.once [] l:=by
 rw[Sx.once_append,Sx.once,if_pos,Sx.once];have:=(Sx.mem_once l [] s).2 (.inr (List.count_pos_iff.1 h));simpa using this
theorem Sx.once_len:∀(l acc:List Lx.Bytes),(Sx.once acc l).length<=acc.length+l.length
 | [],acc=>by simp[Sx.once]
 | x::l,acc=>by
  rw[Sx.once];split
  ·have:=Sx.once_len l acc;simp;omega
  ·have:=Sx.once_len l (acc++[x]);simp at this ⊢;omega
def strsV (l:List Lx.Bytes):List Value:=l.map fun s=>Value.string ⟨s.toArray⟩
def OwnS (w:World) (base:Nat) (v:Value) (l:List Lx.Bytes):Prop:=w.ownsRow base 9 1 v l.length (strsV l)
theorem zdsZ:(Tryz.prog.info? 9).map (fun i=>(i.zero,i.size,i.bytes))=some (some (.string ByteArray.empty),1,16):=by kernel_rfl
theorem zjbZ (w:World):(zeroValue 3).run Tryz.prog w=.ok (.int .i64 0) w:=by kernel_rfl
theorem OwnS.slice {w:World} {base:Nat} {v:Value} {l:List Lx.Bytes} (h:OwnS w base v l):∃A c,v=.slice A l.length c:=by
 rcases h.2 with⟨rfl,h0⟩ | ⟨g,cap,cur,rfl,_⟩
 ·exact⟨none,0,by rw[h0]⟩
 ·exact⟨_,cap,rfl⟩
structure Met (B bl bc b:Nat) (l:List Lx.Bytes) (w:World):Prop where
 hl:B<=bl
 hc:B<=bc
 hb:B<=b
 bk:∃v,Boxed w bl 22 v/\OwnS w B v (Sx.once [] l)
 cm:Boxed w bc 107 (.map (some b))
 mp:∃n,∃D:DataW Unit,n<=l.length/\w.ownsMap Tryz.prog 9 (plainElem Tryz.prog 3) b n D/\Maps.IsMap D/\∀s,D.atKey (.string s) (.lit (.int .i64 0))=.lit (.int .i64 (l.count s:Nat))
theorem OwnS.ne_box {w:World} {B bl t:Nat} {v x:Value} {l:List Lx.Bytes} (h:OwnS w B v l) (ht : 9 ≠t) (hb:Boxed w bl t x):∀r,v.ownBlock=some r->B<=r/\bl≠r:=by
 intro r hr;obtain⟨h1,c,h2⟩:=zckZ h r hr;refine⟨h1,fun e=>?_⟩;subst e;rw[show w.heap[bl]? =_ from hb]at h2;injection h2 with h2;injection h2 with _ h2;exact ht h2.symm
theorem zwoZ {w:World} {a b t t':Nat} {x y:Value} (h:Boxed w a t x) (h':Boxed w b t' y) (hne:t≠t'):a≠b:=by
 rintro rfl;unfold Boxed at h h';rw[h]at h';injection h' with h';injection h' with _ h';exact hne h'
theorem zcZ {w:World} {g t:Nat} {a b c d e:Value} (h:w.heap[g]? =some (.cells #[a,b,c,d,e] t (0,0))) :
  w.cell? ⟨g,0,none⟩=some a/\w.cell? ⟨g,1,none⟩=some b/\w.cell? ⟨g,2,none⟩=some c/\w.cell? ⟨g,3,none⟩=some d/\w.cell? ⟨g,4,none⟩=some e:=
 ⟨zdZ h 0,zdZ h 1,zdZ h 2,zdZ h 3,zdZ h 4⟩
theorem zmnZ {H:Type} {w:World} {P:Program} {k:TypeId} {R:Value->Option (DataW H×List MemPlace)} {b n:Nat} {D:DataW H} (h:w.ownsMap P k R b n D) {a:Addr} (ha:b≠a.block) (u:Value):(w.setCell a u).ownsMap P k R b n D:=by
 obtain⟨es,clock,hb,r⟩:=h;exact⟨es,clock,by rw[yuZ _ _ _ _ ha];exact hb,r⟩
theorem zeyZ {H:Type} {w:World} {P:Program} {k:TypeId} {R:Value->Option (DataW H×List MemPlace)} {b n:Nat} {D:DataW H} (h:w.ownsMap P k R b n D) {g t:Nat} {x:Value} (hb:Boxed w g t x):b≠g:=by
 obtain⟨es,clock,h1,r⟩:=h;rintro rfl;rw[show w.heap[b]? =_ from hb]at h1;cases h1
theorem zhaZ {H:Type} {w:World} {P:Program} {k:TypeId} {R:Value->Option (DataW H×List MemPlace)} {b n:Nat} {D:DataW H} (h:w.ownsMap P k R b n D) {B:Nat} {v:Value} {l:List Lx.Bytes} (ho:OwnS w B v l):some b≠v.ownBlock:=by
 intro e;obtain⟨h1,c,h2⟩:=zckZ ho b e.symm;obtain⟨es,clock,h3,r⟩:=h;rw[h3]at h2;cases h2
theorem zpiZ (a:Int) (h1:-1000000000<=a) (h2:a<=1000000000):(Lit.int .i64 a).wf=true:=by
 have e1:IntKind.min .i64=-9223372036854775808:=by decide
 have e2:IntKind.max .i64=9223372036854775807:=by decide
 simp only[Lit.wf,e1,e2,ygZ,yCZ];omega
def Keep (w w':World):Prop:=∀(k:Nat) (cs:Array Value) (t:TypeId) (fr:Nat×Nat),w.heap[k]? =some (Obj.cells cs t fr)->t≠ 9 ->t≠ 22 ->w'.heap[k]? =some (Obj.cells cs t fr)
theorem Keep.refl (w:World):Keep w w:=fun _ _ _ _ h _ _=>h
theorem Keep.trans {a b c:World} (h:Keep a b) (h':Keep b c):Keep a c:=fun k cs t fr hk h1 h2=>h' k cs t fr (h k cs t fr hk h1 h2) h1 h2
theorem Keep.grown {w w':World} {row:Option Nat} (hg:w.grownBy w' row) (hr:∀j,row=some j->∀cs t fr,w.heap[j]? =some (.cells cs t fr)->t= 9 \/t= 22):Keep w w':=by
 intro k cs t fr hk h1 h2;refine(hg.block k (zaZ hk) (fun e=>?_)).trans hk;rcases hr k e.symm cs t fr hk with h | h
 ·exact h1 h
 ·exact h2 h
theorem Keep.set {w:World} {bl:Nat} {v:Value} (h:Boxed w bl 22 v) (u:Value):Keep w (w.setCell ⟨bl,0,none⟩ u):=by
 intro k cs t fr hk h1 h2;refine(yuZ w ⟨bl,0,none⟩ u k ?_).trans hk;rintro rfl;rw[show w.heap[k]? =_ from h]at hk;injection hk with hk;injection hk with _ hk;exact h2 hk.symm
theorem Met.kept {B bl bc b:Nat} {l:List Lx.Bytes} {w w':World} (h:Met B bl bc b l w) (hg:w.grownBy w' none):Met B bl bc b l w':=by
 obtain⟨h1,h2,h3,⟨v,hbl,ho⟩,hbc,n,D,hn,hm,hD,hat⟩:=h;exact⟨h1,h2,h3,⟨v,hbl.kept hg (by simp),World.ownsRow.kept ho hg (by cases v.ownBlock <;> simp)⟩,hbc.kept hg (by simp),n,D,hn,hm.kept hg (by simp),hD,hat⟩
theorem zuuZ (B bl bc b:Nat) (l:List Lx.Bytes) (s:Lx.Bytes) (w:World) (h:Met B bl bc b l w) (hB:B<=w.heap.size) (hl:l.length<=1000000) (hs:s.length<=140737488351232) :
  Calls Tryz.prog 62 #[.string ⟨s.toArray⟩,.pointer (some ⟨bc,0,none⟩),.pointer (some ⟨bl,0,none⟩)] w fun e w'=>
   e=.returned (.tuple #[])/\Met B bl bc b (l++[s]) w'/\Below B w w'/\Keep w w':=by
 obtain⟨h1,h2,h3,⟨v,hbl,ho⟩,hbc,n,D,hn,hm,hD,hat⟩:=h;have H6:keyOf Tryz.prog 9 (.string ⟨s.toArray⟩)=some (.string s):=by simpa using keyOf_string_mk (P:= Tryz.prog) Tryz.underlying9 (s:=⟨s.toArray⟩) (by simp[ByteArray.size,maxLen];omega)
 have kb:=Maps.string_keyed (P:= Tryz.prog) Tryz.underlying9;obtain⟨k,hk⟩:=zE (l.count s);have J9:k<=1000000:=by have:=List.count_le_length (a:=s) (l:=l);omega
 have J5:(k:Int)<=1000000:=by omega
 have Jb:(0:Int)<=(k:Int):=by omega
 obtain⟨c,hlk,hc,wc⟩:=hm.lookup_int kb Tryz.underlying107 Tryz.underlying3 (zjbZ _) H6;rw[hat s,hk]at hc;injection hc with hc;injection hc with _ hc;subst hc;have cC:=hbc.cell;have cL:=hbl.cell;have fL:=hbl.frozen;have Jc:=hbc.lt;have Ja:=hbl.lt;have J8:=hm.lt;have J6:n<=1000000:=by omega
 have HK:=zh hk;have J2:=zh hat;have HN:=zh hn;have HD:=zh hD;have HO:=zh ho;have Hm:=zh hbl;have Hw:=zh hbc;have HM:=zh hm;clear hk hat hn hD ho hbl hbc;have Hn:=plainElem_int (H:=Unit) (P:= Tryz.prog) Tryz.underlying3 (a:=(k:Int)+1) (zpiZ _ (by omega) (by omega));go_enter Tryz.func62, Tryz.ntmps62;go_wp2_with (at_mapUpdate;refine wpList_mapUpdate_own _ rfl _ _ _ 107 rfl 9 3 kb Tryz.underlying107 _ b n _ rfl hm (by unfold maxLen;omega) _ _ _ rfl rfl H6 _ [] Hn ?_);intro w1 Hq H8;have H3:Boxed w1 bc 107 (.map (some b)):=Hw.o.kept H8 (fun e=>zeyZ HM.o Hw.o (Option.some.inj e).symm);have H1:Boxed w1 bl 22 v:=Hm.o.kept H8 (fun e=>zeyZ HM.o Hm.o (Option.some.inj e).symm);have Hv:OwnS w1 B v (Sx.once [] l):=World.ownsRow.kept HO.o H8 (.inr (fun e=>zhaZ HM.o HO.o e.symm));have hD1:=HD.o.put (.string s) (.lit (.int .i64 ((k:Int)+1)));have Hc:∀t,(D.put (.string s) (.lit (.int .i64 ((k:Int)+1)))).atKey (.string t) (.lit (.int .i64 0))=.lit (.int .i64 ((l++[s]).count t:Nat)):=by
  intro t;rw[List.count_append];by_cases hts:t=s
  ·subst hts;rw[Maps.atKey_put_same HD.o (by trivial),HK.o];simp
  ·rw[Maps.atKey_put_other (by intro e;injection e with e;exact hts e),J2.o t];have:List.count t [s]=0:=(by rw[List.count_eq_zero];simpa using hts);rw[this,ypZ]
 obtain⟨c1,hlk1,hc1,wc1⟩:=Hq.lookup_int kb Tryz.underlying107 Tryz.underlying3 (zjbZ _) H6;rw[Maps.atKey_put_same HD.o (by trivial)]at hc1;injection hc1 with hc1;injection hc1 with _ hc1;subst hc1;have cC1:=H3.cell;have cL1:=H1.cell;have fL1:=H1.frozen;have Hx:=H3.lt;have Hy:=H1.lt;have hB1:B<=w1.heap.size:=ymZ hB H8.size;have H2:=zh H1;have H4:=zh H3;have Hs:=zh Hv;have Hk:=zh hD1;have Hb:=zh Hc;have He:=zh Hq;have Hg:=zh H8;clear H1 H3 Hv hD1 Hc H8 hm hlk Hn;have Hu:∀j,some b=some j->B<=j:=fun j e=>by injection e with e;omega
 have Hp:=zh Hu
 have Ht:=zh (Keep.grown Hg.o (by
  intro j e cs t fr hj;injection e with e;subst e;obtain⟨es,clock,h1,_⟩:=HM.o;rw[h1]at hj
  cases hj))
 clear Hu;by_cases hk1:k=0
 ·have he:((k:Int)+1==1)=true:=(by simp[hk1]);have Hi:=zh hk1;clear hk1;have Hz:=zh (Sx.once_new (s:=s) (l:=l) (by rw[HK.o];exact Hi.o));have J0:=zh (Sx.once_len l []);obtain⟨u,hu⟩:=zE (Sx.once [] l);have J7:u.length<=1000000:=(by have:=J0.o;rw[hu]at this;simp at this;omega);have H5:=Hs.o;rw[hu]at H5;obtain⟨i0,hi,hz0,hz1,hz2⟩:=info_parts zdsZ;have HU:=zh hu;clear hu;go_wp2_with (at_builtin;refine wpList_append_own _ rfl _ _ 22 rfl B 9 i0 _ 1 16 Tryz.underlying22 hi hz0 hz1 hz2 rfl (by decide) v u.length (strsV u) rfl (World.ownsRow.alloc H5 _) ⟨w1.heap.size,0,none⟩ 1 1 [.string ⟨s.toArray⟩] rfl rfl (cell_one_new _ _ _) (by simp[Value.oneCell']) (by unfold maxLen;omega) (by omega) (by simp;omega) ?_);intro v' w2 hown' hgrow' _;have Hh:=OwnS.ne_box H5 (by decide) H2.o;have Hr:=OwnS.ne_box H5 (by decide) H4.o;have Ho:=zhaZ He.o H5;have H7:w1.grownBy w2 v.ownBlock:=(yeZ w1 _ _).trans hgrow';have H0:Boxed w2 bl 22 v:=H2.o.kept H7 (fun e=>(Hh bl e.symm).2 rfl);have H9:Boxed w2 bc 107 (.map (some b)):=H4.o.kept H7 (fun e=>(Hr bc e.symm).2 rfl);have Hl:=He.o.kept H7 Ho;have Hf:OwnS w2 B v' (u++[s]):=(by unfold OwnS strsV;rw[List.map_append];simpa[strsV]using hown');have cL2:=H0.cell;have fL2:=H0.frozen;have J1:=H0.lt;have Hj:bl≠b:=fun e=>zeyZ He.o H2.o e.symm;have Hd:bl≠bc:=zwoZ H2.o H4.o (by decide);obtain⟨A',c',hv'⟩:=Hf.slice;rw[show(u++[s]).length=u.length+1 by simp]at hv';subst hv';have Ha:=OwnS.ne_box Hf (by decide) H0
  have HF:=zh (show Met B bl bc b (l++[s]) (w2.setCell ⟨bl,0,none⟩ (.slice A' (u.length+1) c'))from
   ⟨h1,h2,h3,⟨.slice A' (u.length+1) c',by unfold Boxed;exact one_setCell H0,by rw[Hz.o,HU.o];exact ownsRow_setCell_other Hf (a:=⟨bl,0,none⟩) (fun e=>(Ha bl e).2 rfl) _⟩,
    (yuZ w2 ⟨bl,0,none⟩ (.slice A' (u.length+1) c') bc Hd.symm).trans H9,n+1,_,by simp;have:=HN.o;omega,zmnZ Hl Hj.symm _,Hk.o,Hb.o⟩)
  have J4:=zh (show Below B w (w2.setCell ⟨bl,0,none⟩ (.slice A' (u.length+1) c'))from(((yqZ B w).grown Hg.o hB Hp.o).grown H7 hB1 (fun j e=>(Hh j e).1)).setCell h1 _)
  have J3:=zh (show Keep w (w2.setCell ⟨bl,0,none⟩ (.slice A' (u.length+1) c'))from(Ht.o.trans (Keep.grown H7 (by
   intro j e cs t fr hj;obtain⟨_,c,h2⟩:=zckZ H5 j e;rw[h2]at hj;injection hj with hj;injection hj with _ hj
   exact .inl hj.symm))).trans (Keep.set H0 _))
  clear hown' hgrow' Hh Hr Ho H7 H0 H9 Hl Hf Hj Hd Ha H5;go_wp2;go_end0;exact⟨rfl,HF.o,J4.o,J3.o⟩
 ·have he:((k:Int)+1==1)=false:=(by simp;omega);have Hi:=zh hk1;clear hk1;go_wp2;go_end0;refine⟨rfl,⟨h1,h2,h3,⟨v,H2.o,?_⟩,H4.o,n+1,_,by simp;have:=HN.o;omega,He.o,Hk.o,Hb.o⟩,(yqZ B w).grown Hg.o hB Hp.o,Ht.o⟩;rw[Sx.once_old (by rw[HK.o];have:=Hi.o;omega)];exact Hs.o
theorem Sx.names_take {l:List Sx.Ty} {m:Nat} (h:m<l.length):Sx.allNamesL (l.take (m+1))=Sx.allNamesL (l.take m)++Sx.allNames l[m]:=by
 rw[ykZ h,Sx.namesL_append];simp[Sx.allNamesL]
mutual
theorem Sx.names_size:∀(t:Sx.Ty),(Sx.allNames t).length<=Sx.size t
 | .mk k n ns es ps=>by rw[Sx.allNames,Sx.size,ycZ];have:=Sx.namesL_size ps;split <;> simp <;> omega
theorem Sx.namesL_size:∀(l:List Sx.Ty),(Sx.allNamesL l).length<=Sx.sizeL l
 | []=>by simp[Sx.allNamesL]
 | t::l=>by rw[Sx.allNamesL,Sx.sizeL,ycZ];have:=Sx.names_size t;have:=Sx.namesL_size l;omega
end
theorem zogZ (W0 : World) (bl bc b : Nat) : ∀ (n : Nat) (l : List Sx.Ty) (v : Value) (told : List Lx.Bytes) (W : World), Sx.sizeL l <= n -> told.length + n <= 1000000 -> TyRow W0 v l -> Below W0.heap.size W0 W -> Met W0.heap.size bl bc b told W ->
    Calls Tryz.prog 61 #[v, .func (.func 62) #[] #[.pointer (some ⟨bc, 0, none⟩), .pointer (some ⟨bl, 0, none⟩)]] W fun e W' =>
      e = .returned (.tuple #[]) /\ Met W0.heap.size bl bc b (told ++ Sx.allNamesL l) W' /\ Below W0.heap.size W0 W' /\ Keep W W' := by
  intro n
  induction n using Nat.strongRecOn with
  | _ n ih =>
    intro l v told W hn Jk hv Hv hM;obtain ⟨A, c, rfl, J3, hl⟩ := hv;have Jg := Sx.length_size l;have Jn := Sx.namesL_size l;have Jl : (l.length : Int) <= 1000000 := (by omega);have HL := zh hl;have Hq := zh ih;have Jf := zh Hv;have HM := zh hM;clear ih hl Hv hM;go_enter Tryz.func61, Tryz.ntmps61;go_wp2_with fail;go_loopg [8] (l.length) (fun i v wr => ∃ (m : Nat), i = l.length - m /\ v = .int .i64 (m : Int) /\ m <= l.length /\ Met W0.heap.size bl bc b (told ++ Sx.allNamesL (l.take m)) wr /\ Below W0.heap.size W0 wr /\ Keep W wr)
    case atStart => exact ⟨0, rfl, rfl, yxZ _, by simpa [Sx.allNamesL] using HM.o, Jf.o, Keep.refl _⟩
    case round =>
      obtain ⟨m, hi, rfl, hm, H7, hb, Ho⟩ := hrel;have Hy := zh Ho;clear Ho;have HI := zh hi;have Hm := zh H7;have HB := zh hb;have m0 : (0 : Int) <= (m : Int) := (by omega);clear hi H7 hb;by_cases hlt : m < l.length
      · have J6 : (m : Int) < (l.length : Int) := by omega
        obtain ⟨g, off, v0, v1, v2, v3, v4, rfl, c0, c1, c2, c3, c4, ht⟩ := IsTys.at (IsTys.below HB.o l _ 0 HL.o) m hlt;have Je : ∃ v0 v1 v2 v3 v4, W0.cell? ⟨g, off + (0 + m) * 5, none⟩ = some v0 /\ W0.cell? ⟨g, off + (0 + m) * 5 + 1, none⟩ = some v1 /\ W0.cell? ⟨g, off + (0 + m) * 5 + 2, none⟩ = some v2 /\ W0.cell? ⟨g, off + (0 + m) * 5 + 3, none⟩ = some v3 /\ W0.cell? ⟨g, off + (0 + m) * 5 + 4, none⟩ = some v4 /\ IsTy W0 (.agg #[v0, v1, v2, v3, v4]) (l[m]'hlt) := (by obtain ⟨g', off', v0', v1', v2', v3', v4', e, c0', c1', c2', c3', c4', ht'⟩ := IsTys.at HL.o m hlt;injection e with e;injection e with e1 e2;subst e1 e2;exact ⟨v0', v1', v2', v3', v4', c0', c1', c2', c3', c4', ht'⟩);clear ht c0 c1 c2 c3 c4 v0 v1 v2 v3 v4;obtain ⟨v0, v1, v2, v3, v4, c0, c1, c2, c3, c4, ht⟩ := Je;obtain ⟨t, H8⟩ := zE (l[m]'hlt);have H6 : t ∈ l := (by rw [<- H8]; exact yfZ hlt);rw [H8] at ht;have Hz := zh (Sx.parts_mem H6);have Jd := zh (Sx.size_mem H6);have Hx := zh (Sx.size_parts t);have HT := zh (Sx.names_take hlt);have Jc := zh (show Sx.sizeL (l.take (m + 1)) = Sx.sizeL (l.take m) + Sx.size t by rw [Sx.size_take hlt, H8]);have Hj := zh (Sx.sizeL_take_le l (m + 1));have Jj := zh (Sx.namesL_size (l.take m));have Hw := zh H8;have Hi := zh (show (told ++ Sx.allNamesL (l.take m)).length + (1 + Sx.sizeL t.parts) <= 1000000 by have := Jj.o; have := Jc.o; have := Hj.o; have := Hx.o; simp; omega);obtain ⟨vn, ve, vp, H1, Hu, Hr, Hc⟩ := ht.limbs;obtain ⟨An, cn, J9, -⟩ := id Hu;obtain ⟨Ae, ce, J8, -⟩ := id Hr;obtain ⟨Ap, cp, J7, -, -⟩ := id Hc;subst J9 J8 J7;injection H1 with H1;simp only [ykbZ, ygbZ, ymbZ] at H1;obtain ⟨rfl, rfl, rfl, rfl, rfl⟩ := H1;rw [yGZ] at c0 c1 c2 c3 c4;have H9 := World.block_lt_of_cell? W0 ⟨g, _, none⟩ c0;simp only at H9;have up : ∀ {j : Nat} {u : Value}, W0.cell? ⟨g, j, none⟩ = some u -> wr.cell? ⟨g, j, none⟩ = some u := fun {j u} hj => (World.cell?_of_block (HB.o.block g H9)).trans hj;replace c0 := up c0;replace c1 := up c1;replace c2 := up c2;replace c3 := up c3;replace c4 := up c4;have Jh := World.block_lt_of_cell? wr ⟨g, _, none⟩ c0;simp only at Jh;have HP := zh Hc;have Hn := zh (Sx.names_parts t);obtain ⟨kd, Hh⟩ := zE (t.kind);have Hp := zh Hh;rw [Hh] at c0;have Jm := HB.o.size;obtain ⟨w2, Hf⟩ := zE (wr.alloc (.cells #[.int .i64 kd, .string ⟨t.name.toArray⟩, .slice An t.names.length cn, .slice Ae t.embeds.length ce, .slice Ap t.parts.length cp] 26));have Ha : wr.grownBy w2 none := (by rw [<- Hf]; exact yeZ _ _ _);have J0 : Below W0.heap.size W0 w2 := HB.o.grown Ha HB.o.size (fun j e => nomatch e);have H2 := Hm.o.kept Ha;clear Hu Hr Hc ht Hh H8 up;have Jb : wr.heap.size < w2.heap.size := (by rw [<- Hf]; simp);obtain ⟨L, hL⟩ := zE (wr.heap.size);have H5 : w2.heap[L]? = some (.cells #[.int .i64 kd, .string ⟨t.name.toArray⟩, .slice An t.names.length cn, .slice Ae t.embeds.length ce, .slice Ap t.parts.length cp] 26 (0, 0)) := (by rw [<- Hf, <- hL]; exact ydZ wr _);have He := zh H5;have Hd := zh J0;have J1 := zh H2;have J2 := zh (Hy.o.trans (Keep.grown Ha (fun j e => nomatch e)));clear H5 J0 H2 Ha;by_cases h4 : kd = 4
        · have J5 : (kd == 4) = true := by simp [h4]
          have H4 := zh h4;clear h4;obtain ⟨x0, x1, x2, x3, x4⟩ := zcZ He.o;have H3 := zuuZ W0.heap.size bl bc b (told ++ Sx.allNamesL (l.take m)) t.name w2 J1.o (by have := Hd.o.size; omega) (by have := Hi.o; omega) (by have := Hx.o; have := Jd.o; omega)
          go_wp2_with (first
            | (go_at_call 62; refine H3.mono ?_; clear H3 x0 x1 x2 x3 x4; rintro e W3 ⟨rfl, Hs, Ht, Hk⟩
               have H0 := Hk _ _ _ _ He.o (by decide) (by decide);obtain ⟨x0, x1, x2, x3, x4⟩ := zcZ H0;have Jo := zaZ H0;have Ja := zh Hs;have Ji := zh (Hd.o.trans Ht);have J4 := zh (J2.o.trans Hk)
               clear Hs Ht Hk H0)
            | (go_at_call 61
               refine (Hq.o (Sx.sizeL t.parts) (by have := Hz.o; omega) t.parts _ _ W3 (ybZ _) (by have := Hi.o; simp at this ⊢; omega) HP.o Ji.o Ja.o).mono ?_
               rintro e W4 ⟨rfl, Hb, Hl, Hg⟩))
          go_roundg (l.length - (m + 1))
          case measure => have := HI.o; omega
          case rel =>refine ⟨m + 1, rfl, by simp, hlt, ?_, Hl, J4.o.trans Hg⟩;rw [HT.o, Hw.o, Hn.o, Hp.o, if_pos H4.o];simpa [yiZ] using Hb
        · have J5 : (kd == 4) = false := by simp [h4]
          have H4 := zh h4;clear h4;obtain ⟨x0, x1, x2, x3, x4⟩ := zcZ He.o
          go_wp2_with (go_at_call 61
                       refine (Hq.o (Sx.sizeL t.parts) (by have := Hz.o; omega) t.parts _ _ w2 (ybZ _) (by have := Hi.o; omega) HP.o Hd.o J1.o).mono ?_
                       rintro e W4 ⟨rfl, Hb, Hl, Hg⟩)
          go_roundg (l.length - (m + 1))
          case measure => have := HI.o; omega
          case rel =>refine ⟨m + 1, rfl, by simp, hlt, ?_, Hl, J2.o.trans Hg⟩;rw [HT.o, Hw.o, Hn.o, Hp.o, if_neg H4.o];simpa [yiZ] using Hb
      · have J6 : ¬ (m : Int) < (l.length : Int) := by omega
        go_wp2_with fail
        go_end0
        refine ⟨rfl, ?_, HB.o, Hy.o⟩;have := Hm.o
        rwa [yjZ (by omega)] at this
end Go.Proofs.YtdncljdfmdgdaaaGreatDoor
namespace Go.Proofs.YtdncljdfmdgdaaaGreatDoor.Sx
open Go.Proofs.YtdncljdfmdgdaaaGreatDoor.Lx (Bytes)
inductive Ex where
 | mk (pos kind n:Int) (s:Bytes) (t:List Ty) (names:List Bytes) (parts:List Ex)
def Ex.kind:Ex->Int | .mk _ k _ _ _ _ _=>k
def Ex.parts:Ex->List Ex | .mk _ _ _ _ _ _ ps=>ps
inductive St where
 | mk (pos kind:Int) (name:Bytes) (t:List Ty) (x:List Ex) (body els:List St)
def St.kind:St->Int | .mk _ k _ _ _ _ _=>k
structure Param where
 name:Bytes
 t:Ty
structure Code where
 pos:Int
 owner:Bytes
 name:Bytes
 params:List Param
 result:Ty
 body:List St
def level (k:Int):Nat:=
 if k=21 then 1 else if k=20 then 2 else if k=18\/k=19 then 3 else if k=16\/k=17 then 4 else if k=15 then 5 else if k=13\/k=14 then 6 else if 9<=k/\k<=12 then 7 else 8
def sign (k:Int):Bytes:=
 if k=15 then [42]else if k=16 then [43]else if k=17 then [45]else if k=18 then [61,61]else if k=19 then [60]else if k=20 then [97,110,100]else [111,114]
structure Says where
 digits:Int->Bytes
 quote:Bytes->Bytes
mutual
def expr (S:Says):Ex->List Bytes
 | .mk _ k n s t ns ps=>
  if k=1 then [S.digits n]
  else if k=2 then [S.quote s]
  else if k=3 then [if n=1 then [116,114,117,101]else [102,97,108,115,101]]
  else if k=4 then [s]
  else if k=5 then [[115,101,108,102]]
  else if k=6 then [110,105,108]::typL t
  else if k=7\/k=8 then(if k=8 then [[110,101,119]]else [])++[s,[123]]++record S 0 ns ps++[[125]]
  else if k=9 then first S 7 ps++[[46],s]
  else if k=10 then first S 7 ps++[[46],s]++args S ps
  else if k=11 then applied S ps++args S ps
  else if k=12 then first S 7 ps++[[116,111]]++typL t
  else if k=13\/k=14 then(if k=13 then [45]else [110,111,116])::first S 6 ps
  else first S (if level k=3 then 4 else level k) ps++[sign k]++second S (level k+1) ps
def first (S:Says):Nat->List Ex->List Bytes
 | _,[]=>[]
 | l,x::_=>if level x.kind<l then [[40]]++expr S x++[[41]]else expr S x
def second (S:Says):Nat->List Ex->List Bytes
 | _,[]=>[]
 | l,_::ps=>first S l ps
def applied (S:Says):List Ex->List Bytes
 | []=>[]
 | x::_=>if x.kind=9\/level x.kind<7 then [[40]]++expr S x++[[41]]else expr S x
def args (S:Says):List Ex->List Bytes
 | []=>[]
 | _::ps=>[[40]]++list S 0 ps++[[41]]
def list (S:Says):Nat->List Ex->List Bytes
 | _,[]=>[]
 | i,x::ps=>(if 0<i then [[44]]else [])++expr S x++list S (i+1) ps
def record (S:Says):Nat->List Bytes->List Ex->List Bytes
 | i,n::ns,x::ps=>(if 0<i then [[44]]else [])++[n,[58]]++expr S x++record S (i+1) ns ps
 | _,_,_=>[]
end
mutual
def stmt (S:Says):St->List Bytes
 | .mk _ k nm t x b e=>
  (if k=1 then [[108,101,116],nm]++typL t++[[61]]else if k=2 then [nm,[61]]else if k=3 then [[112,114,105,110,116]]else if k=4 then [[105,102]]
   else if k=5 then [[119,104,105,108,101]]else if k=6 then [[114,101,116,117,114,110]]else [])++
  first S 0 x++
  (if k≠4/\k≠5 then [[59]]else if e.isEmpty then [[123]]++stmts S b++[[125]]
   else [[123]]++stmts S b++[[125]]++[[101,108,115,101]]++[[123]]++stmts S e++[[125]])
def stmts (S:Says):List St->List Bytes
 | []=>[]
 | s::l=>stmt S s++stmts S l
end
/-! ### which are right -/
structure Names where
 small:Bytes->Bool
 great:Bytes->Bool
 said:Bytes->Bool
def apart (N:Names):List Bytes->Bool
 | []=>true
 | s::l=>N.small s&&(!l.contains s&&apart N l)
def shape (N:Names) (k:Int) (n:Bytes) (ns:List Bytes) (es:List Bool) (ps:List Ty):Bool:=
 if k=1\/k=2\/k=3 then n.isEmpty&&ns.isEmpty&&es.isEmpty&&ps.isEmpty
 else if k=4 then N.great n&&ns.isEmpty&&es.isEmpty&&ps.isEmpty
 else if k=5 then n.isEmpty&&ns.isEmpty&&es.isEmpty&&ps.length==1
 else if k=7 then n.isEmpty&&ns.isEmpty&&es.isEmpty&&decide (1<=ps.length)
 else if k=6 then n.isEmpty&&es.length==ns.length&&ps.length==ns.length&&apart N ns
 else if k=8 then ps.all (fun p=>p.kind==7)&&(n.isEmpty&&es.isEmpty&&ps.length==ns.length&&apart N ns)
 else false
mutual
def rightT (N:Names):Nat->Ty->Bool
 | 0,_=>false
 | d+1,.mk k n ns es ps=>rightTs N d ps&&shape N k n ns es ps
def rightTs (N:Names):Nat->List Ty->Bool
 | _,[]=>true
 | d,t::l=>rightT N d t&&rightTs N d l
end
def shapeX (N:Names) (k n:Int) (s:Bytes) (t:List Ty) (ns:List Bytes) (m:Nat):Bool:=
 decide (1<=k/\k<=21)&&
 ((if k=2 then N.said s else if k=4\/k=9\/k=10 then N.small s else if k=7\/k=8 then N.great s else s.isEmpty)&&
 ((decide (n=0)||(decide (k=1/\0<=n)||decide (k=3/\0<=n/\n<=1)))&&
 ((if k=6\/k=12 then t.length==1&&rightTs N 64 t else t.isEmpty)&&
 (if k=7\/k=8 then m==ns.length&&apart N ns else ns.isEmpty&&(if k<=6 then m==0 else if k=9\/k=12\/k=13\/k=14 then m==1 else if k=10\/k=11 then decide (1<=m)else m==2)))))
def flat (k:Int):Bool:=decide ((9<=k/\k<=12)\/15<=k)
mutual
def rightX (N:Names):Nat->Ex->Bool
 | 0,_=>false
 | d+1,.mk _ k n s t ns ps=>shapeX N k n s t ns ps.length&&rightXs N (if flat k then d+1 else d) d ps
def rightXs (N:Names):Nat->Nat->List Ex->Bool
 | _,_,[]=>true
 | d0,d,x::l=>rightX N d0 x&&rightXs N d d l
end
def shapeS (N:Names) (k:Int) (nm:Bytes) (t:List Ty) (x:List Ex) (b e:List St):Bool:=
 (decide (1<=k/\k<=7)&&(x.length==1&&rightXs N 64 64 x))&&
 ((if k=1\/k=2 then N.small nm else nm.isEmpty)&&
 ((t.isEmpty||(decide (k=1)&&(t.length==1&&rightTs N 64 t)))&&
 ((decide (k=4\/k=5)||b.isEmpty)&&(decide (k=4)||e.isEmpty))))
mutual
def rightS (N:Names):Nat->St->Bool
 | 0,_=>false
 | d+1,.mk _ k nm t x b e=>shapeS N k nm t x b e&&(rightSs N d b&&rightSs N d e)
def rightSs (N:Names):Nat->List St->Bool
 | _,[]=>true
 | d,s::l=>rightS N d s&&rightSs N d l
end
end Go.Proofs.YtdncljdfmdgdaaaGreatDoor.Sx
namespace Go.Proofs.YtdncljdfmdgdaaaGreatDoor
open Go.RowKit
def Sx.Ex.pos:Sx.Ex->Int | .mk p _ _ _ _ _ _=>p
def Sx.Ex.n:Sx.Ex->Int | .mk _ _ n _ _ _ _=>n
def Sx.Ex.s:Sx.Ex->Lx.Bytes | .mk _ _ _ s _ _ _=>s
def Sx.Ex.t:Sx.Ex->List Sx.Ty | .mk _ _ _ _ t _ _=>t
def Sx.Ex.names:Sx.Ex->List Lx.Bytes | .mk _ _ _ _ _ ns _=>ns
def Sx.St.pos:Sx.St->Int | .mk p _ _ _ _ _ _=>p
def Sx.St.name:Sx.St->Lx.Bytes | .mk _ _ n _ _ _ _=>n
def Sx.St.t:Sx.St->List Sx.Ty | .mk _ _ _ t _ _ _=>t
def Sx.St.x:Sx.St->List Sx.Ex | .mk _ _ _ _ x _ _=>x
def Sx.St.body:Sx.St->List Sx.St | .mk _ _ _ _ _ b _=>b
def Sx.St.els:Sx.St->List Sx.St | .mk _ _ _ _ _ _ e=>e
mutual
def IsEx (W:World):Value->Sx.Ex->Prop
 | v,.mk pos k n s t ns ps=>∃vt vn A0 c0,v=.agg #[.int .i64 pos,.int .i64 k,.int .i64 n,.string ⟨s.toArray⟩,vt,vn,.slice A0 ps.length c0]/\TyRow W vt t/\StrRow W vn ns/\ps.length<=c0/\IsExs W A0 0 ps/\-9223372036854775808<=n/\n<=9223372036854775807
def IsExs (W:World) (A:Option Addr):Nat->List Sx.Ex->Prop
 | _,[]=>True
 | i,t::l=>(∃g off v0 v1 v2 v3 v4 v5 v6,A=some ⟨g,off,none⟩/\W.cell? ⟨g,off+i * 7,none⟩=some v0/\W.cell? ⟨g,off+i * 7+1,none⟩=some v1/\W.cell? ⟨g,off+i * 7+2,none⟩=some v2/\W.cell? ⟨g,off+i * 7+3,none⟩=some v3/\W.cell? ⟨g,off+i * 7+4,none⟩=some v4/\W.cell? ⟨g,off+i * 7+5,none⟩=some v5/\W.cell? ⟨g,off+i * 7+6,none⟩=some v6/\IsEx W (.agg #[v0,v1,v2,v3,v4,v5,v6]) t)/\IsExs W A (i+1) l
end
def ExRow (W:World) (v:Value) (l:List Sx.Ex):Prop:=∃A c,v=.slice A l.length c/\l.length<=c/\IsExs W A 0 l
mutual
theorem IsEx.below {W W':World} (hb:Below W.heap.size W W'):∀(t:Sx.Ex) (v:Value),IsEx W v t->IsEx W' v t
 | .mk pos k n s t ns ps,v,h=>by rw[IsEx]at h ⊢;obtain⟨vt,vn,A0,c0,hv,h0,h1,a0,b0,e0,e1⟩:=h;exact⟨vt,vn,A0,c0,hv,h0.below hb,h1.below hb,a0,IsExs.below hb ps A0 0 b0,e0,e1⟩
theorem IsExs.below {W W':World} (hb:Below W.heap.size W W'):∀(l:List Sx.Ex) (A:Option Addr) (i:Nat),IsExs W A i l->IsExs W' A i l
 | [],A,i,h=>by rw[IsExs];trivial
 | t::l,A,i,h=>by rw[IsExs]at h ⊢;obtain⟨⟨g,off,v0,v1,v2,v3,v4,v5,v6,hA,k0,k1,k2,k3,k4,k5,k6,ht⟩,hl⟩:=h;have hc:∀ {j:Nat} {u:Value},W.cell? ⟨g,j,none⟩=some u->W'.cell? ⟨g,j,none⟩=some u:=fun {j u} hj=>(World.cell?_of_block (hb.block g (World.block_lt_of_cell? W ⟨g,j,none⟩ hj))).trans hj;exact⟨⟨g,off,v0,v1,v2,v3,v4,v5,v6,hA,hc k0,hc k1,hc k2,hc k3,hc k4,hc k5,hc k6,IsEx.below hb t _ ht⟩,IsExs.below hb l A (i+1) hl⟩
end
theorem ExRow.below {W W':World} {v:Value} {l:List Sx.Ex} (h:ExRow W v l) (hb:Below W.heap.size W W'):ExRow W' v l:=by
 obtain⟨A,c,rfl,hc,hl⟩:=h;exact⟨A,c,rfl,hc,IsExs.below hb l A 0 hl⟩
theorem IsExs.at {W:World} {A:Option Addr} : ∀ {l:List Sx.Ex} {k:Nat},IsExs W A k l->∀(m:Nat) (h:m<l.length),∃g off v0 v1 v2 v3 v4 v5 v6,A=some ⟨g,off,none⟩/\W.cell? ⟨g,off+(k+m) * 7,none⟩=some v0/\W.cell? ⟨g,off+(k+m) * 7+1,none⟩=some v1/\W.cell? ⟨g,off+(k+m) * 7+2,none⟩=some v2/\W.cell? ⟨g,off+(k+m) * 7+3,none⟩=some v3/\W.cell? ⟨g,off+(k+m) * 7+4,none⟩=some v4/\W.cell? ⟨g,off+(k+m) * 7+5,none⟩=some v5/\W.cell? ⟨g,off+(k+m) * 7+6,none⟩=some v6/\IsEx W (.agg #[v0,v1,v2,v3,v4,v5,v6]) (l[m]'h)
 | t::l,k,h,0,hm=>by rw[IsExs]at h;exact h.1
 | t::l,k,h,m+1,hm=>by rw[IsExs]at h;have:=IsExs.at h.2 m (by simpa using hm);rw[show k+1+m=k+(m+1)by omega]at this;exact this
theorem IsEx.agg {W:World} {v:Value} {t:Sx.Ex} (h:IsEx W v t):∃A0 c0 A1 c1 A2 c2,v=.agg #[.int .i64 t.pos,.int .i64 t.kind,.int .i64 t.n,.string ⟨t.s.toArray⟩,.slice A0 t.t.length c0,.slice A1 t.names.length c1,.slice A2 t.parts.length c2]/\TyRow W (.slice A0 t.t.length c0) t.t/\StrRow W (.slice A1 t.names.length c1) t.names/\ExRow W (.slice A2 t.parts.length c2) t.parts/\-9223372036854775808<=t.n/\t.n<=9223372036854775807:=by
 cases t with
 | mk pos k n s t ns ps=>rw[IsEx]at h;obtain⟨vt,vn,A,c,rfl,⟨At,ct,rfl,ht1,ht2⟩,⟨An,cn,rfl,hn⟩,hc,hl,hn0,hn1⟩:=h;exact⟨At,ct,An,cn,A,c,rfl,⟨At,ct,rfl,ht1,ht2⟩,⟨An,cn,rfl,hn⟩,⟨A,c,rfl,hc,hl⟩,hn0,hn1⟩
def CellsEx (W:World) (g j:Nat) (v0 v1 v2 v3 v4 v5 v6:Value):Prop:=g<W.heap.size/\W.cell? ⟨g,j,none⟩=some v0/\W.cell? ⟨g,j+1,none⟩=some v1/\W.cell? ⟨g,j+2,none⟩=some v2/\W.cell? ⟨g,j+3,none⟩=some v3/\W.cell? ⟨g,j+4,none⟩=some v4/\W.cell? ⟨g,j+5,none⟩=some v5/\W.cell? ⟨g,j+6,none⟩=some v6
theorem ExRow.spot {W0:World} {Ap:Option Addr} {k cp:Nat} {l:List Sx.Ex} (h:ExRow W0 (.slice Ap k cp) l) (m:Nat) (hm:m<l.length) :
  ∃g off A0 c0 A1 c1 A2 c2,Ap=some ⟨g,off,none⟩/\IsEx W0 (.agg #[.int .i64 (l[m]'hm).pos,.int .i64 (l[m]'hm).kind,.int .i64 (l[m]'hm).n,.string ⟨(l[m]'hm).s.toArray⟩,.slice A0 (l[m]'hm).t.length c0,.slice A1 (l[m]'hm).names.length c1,.slice A2 (l[m]'hm).parts.length c2]) (l[m]'hm)/\∀W,Below W0.heap.size W0 W->CellsEx W g (off+m * 7) (.int .i64 (l[m]'hm).pos) (.int .i64 (l[m]'hm).kind) (.int .i64 (l[m]'hm).n) (.string ⟨(l[m]'hm).s.toArray⟩) (.slice A0 (l[m]'hm).t.length c0) (.slice A1 (l[m]'hm).names.length c1) (.slice A2 (l[m]'hm).parts.length c2):=by
 obtain⟨A,c,hv,-,hl⟩:=h;injection hv with h1 _ _;subst h1;obtain⟨g,off,v0,v1,v2,v3,v4,v5,v6,rfl,k0,k1,k2,k3,k4,k5,k6,ht⟩:=IsExs.at hl m hm;obtain⟨A0,c0,A1,c1,A2,c2,hagg,-⟩:=ht.agg;injection hagg with hagg;simp only[ykbZ,ygbZ,ymbZ]at hagg;obtain⟨rfl,rfl,rfl,rfl,rfl,rfl,rfl⟩:=hagg;rw[yGZ]at k0 k1 k2 k3 k4 k5 k6;have hg:=World.block_lt_of_cell? W0 ⟨g,_,none⟩ k0;refine⟨g,off,A0,c0,A1,c1,A2,c2,rfl,ht,fun W hb=>?_⟩;have up:∀ {j:Nat} {u:Value},W0.cell? ⟨g,j,none⟩=some u->W.cell? ⟨g,j,none⟩=some u:=fun {j u} hj=>(World.cell?_of_block (hb.block g hg)).trans hj;exact⟨yJZ hg hb.size,up k0,up k1,up k2,up k3,up k4,up k5,up k6⟩
mutual
def IsSt (W:World):Value->Sx.St->Prop
 | v,.mk pos k nm t x b e=>∃vt vx A0 c0 A1 c1,v=.agg #[.int .i64 pos,.int .i64 k,.string ⟨nm.toArray⟩,vt,vx,.slice A0 b.length c0,.slice A1 e.length c1]/\TyRow W vt t/\ExRow W vx x/\b.length<=c0/\IsSts W A0 0 b/\e.length<=c1/\IsSts W A1 0 e
def IsSts (W:World) (A:Option Addr):Nat->List Sx.St->Prop
 | _,[]=>True
 | i,t::l=>(∃g off v0 v1 v2 v3 v4 v5 v6,A=some ⟨g,off,none⟩/\W.cell? ⟨g,off+i * 7,none⟩=some v0/\W.cell? ⟨g,off+i * 7+1,none⟩=some v1/\W.cell? ⟨g,off+i * 7+2,none⟩=some v2/\W.cell? ⟨g,off+i * 7+3,none⟩=some v3/\W.cell? ⟨g,off+i * 7+4,none⟩=some v4/\W.cell? ⟨g,off+i * 7+5,none⟩=some v5/\W.cell? ⟨g,off+i * 7+6,none⟩=some v6/\IsSt W (.agg #[v0,v1,v2,v3,v4,v5,v6]) t)/\IsSts W A (i+1) l
end
def StRow (W:World) (v:Value) (l:List Sx.St):Prop:=∃A c,v=.slice A l.length c/\l.length<=c/\IsSts W A 0 l
mutual
theorem IsSt.below {W W':World} (hb:Below W.heap.size W W'):∀(t:Sx.St) (v:Value),IsSt W v t->IsSt W' v t
 | .mk pos k nm t x b e,v,h=>by rw[IsSt]at h ⊢;obtain⟨vt,vx,A0,c0,A1,c1,hv,h0,h1,a0,b0,a1,b1⟩:=h;exact⟨vt,vx,A0,c0,A1,c1,hv,h0.below hb,h1.below hb,a0,IsSts.below hb b A0 0 b0,a1,IsSts.below hb e A1 0 b1⟩
theorem IsSts.below {W W':World} (hb:Below W.heap.size W W'):∀(l:List Sx.St) (A:Option Addr) (i:Nat),IsSts W A i l->IsSts W' A i l
 | [],A,i,h=>by rw[IsSts];trivial
 | t::l,A,i,h=>by rw[IsSts]at h ⊢;obtain⟨⟨g,off,v0,v1,v2,v3,v4,v5,v6,hA,k0,k1,k2,k3,k4,k5,k6,ht⟩,hl⟩:=h;have hc:∀ {j:Nat} {u:Value},W.cell? ⟨g,j,none⟩=some u->W'.cell? ⟨g,j,none⟩=some u:=fun {j u} hj=>(World.cell?_of_block (hb.block g (World.block_lt_of_cell? W ⟨g,j,none⟩ hj))).trans hj;exact⟨⟨g,off,v0,v1,v2,v3,v4,v5,v6,hA,hc k0,hc k1,hc k2,hc k3,hc k4,hc k5,hc k6,IsSt.below hb t _ ht⟩,IsSts.below hb l A (i+1) hl⟩
end
theorem StRow.below {W W':World} {v:Value} {l:List Sx.St} (h:StRow W v l) (hb:Below W.heap.size W W'):StRow W' v l:=by
 obtain⟨A,c,rfl,hc,hl⟩:=h;exact⟨A,c,rfl,hc,IsSts.below hb l A 0 hl⟩
theorem IsSts.at {W:World} {A:Option Addr} : ∀ {l:List Sx.St} {k:Nat},IsSts W A k l->∀(m:Nat) (h:m<l.length),∃g off v0 v1 v2 v3 v4 v5 v6,A=some ⟨g,off,none⟩/\W.cell? ⟨g,off+(k+m) * 7,none⟩=some v0/\W.cell? ⟨g,off+(k+m) * 7+1,none⟩=some v1/\W.cell? ⟨g,off+(k+m) * 7+2,none⟩=some v2/\W.cell? ⟨g,off+(k+m) * 7+3,none⟩=some v3/\W.cell? ⟨g,off+(k+m) * 7+4,none⟩=some v4/\W.cell? ⟨g,off+(k+m) * 7+5,none⟩=some v5/\W.cell? ⟨g,off+(k+m) * 7+6,none⟩=some v6/\IsSt W (.agg #[v0,v1,v2,v3,v4,v5,v6]) (l[m]'h)
 | t::l,k,h,0,hm=>by rw[IsSts]at h;exact h.1
 | t::l,k,h,m+1,hm=>by rw[IsSts]at h;have:=IsSts.at h.2 m (by simpa using hm);rw[show k+1+m=k+(m+1)by omega]at this;exact this
theorem IsSt.agg {W:World} {v:Value} {t:Sx.St} (h:IsSt W v t):∃A0 c0 A1 c1 A2 c2 A3 c3,v=.agg #[.int .i64 t.pos,.int .i64 t.kind,.string ⟨t.name.toArray⟩,.slice A0 t.t.length c0,.slice A1 t.x.length c1,.slice A2 t.body.length c2,.slice A3 t.els.length c3]/\TyRow W (.slice A0 t.t.length c0) t.t/\ExRow W (.slice A1 t.x.length c1) t.x/\StRow W (.slice A2 t.body.length c2) t.body/\StRow W (.slice A3 t.els.length c3) t.els:=by
 cases t with
 | mk pos k nm t x b e=>rw[IsSt]at h;obtain⟨vt,vx,Ab,cb,Ae,ce,rfl,⟨At,ct,rfl,ht1,ht2⟩,⟨Ax,cx,rfl,hx1,hx2⟩,hb1,hb2,he1,he2⟩:=h;exact⟨At,ct,Ax,cx,Ab,cb,Ae,ce,rfl,⟨At,ct,rfl,ht1,ht2⟩,⟨Ax,cx,rfl,hx1,hx2⟩,⟨Ab,cb,rfl,hb1,hb2⟩,⟨Ae,ce,rfl,he1,he2⟩⟩
def CellsSt (W:World) (g j:Nat) (v0 v1 v2 v3 v4 v5 v6:Value):Prop:=g<W.heap.size/\W.cell? ⟨g,j,none⟩=some v0/\W.cell? ⟨g,j+1,none⟩=some v1/\W.cell? ⟨g,j+2,none⟩=some v2/\W.cell? ⟨g,j+3,none⟩=some v3/\W.cell? ⟨g,j+4,none⟩=some v4/\W.cell? ⟨g,j+5,none⟩=some v5/\W.cell? ⟨g,j+6,none⟩=some v6
theorem StRow.spot {W0:World} {Ap:Option Addr} {k cp:Nat} {l:List Sx.St} (h:StRow W0 (.slice Ap k cp) l) (m:Nat) (hm:m<l.length) :
  ∃g off A0 c0 A1 c1 A2 c2 A3 c3,Ap=some ⟨g,off,none⟩/\IsSt W0 (.agg #[.int .i64 (l[m]'hm).pos,.int .i64 (l[m]'hm).kind,.string ⟨(l[m]'hm).name.toArray⟩,.slice A0 (l[m]'hm).t.length c0,.slice A1 (l[m]'hm).x.length c1,.slice A2 (l[m]'hm).body.length c2,.slice A3 (l[m]'hm).els.length c3]) (l[m]'hm)/\∀W,Below W0.heap.size W0 W->CellsSt W g (off+m * 7) (.int .i64 (l[m]'hm).pos) (.int .i64 (l[m]'hm).kind) (.string ⟨(l[m]'hm).name.toArray⟩) (.slice A0 (l[m]'hm).t.length c0) (.slice A1 (l[m]'hm).x.length c1) (.slice A2 (l[m]'hm).body.length c2) (.slice A3 (l[m]'hm).els.length c3):=by
 obtain⟨A,c,hv,-,hl⟩:=h;injection hv with h1 _ _;subst h1;obtain⟨g,off,v0,v1,v2,v3,v4,v5,v6,rfl,k0,k1,k2,k3,k4,k5,k6,ht⟩:=IsSts.at hl m hm;obtain⟨A0,c0,A1,c1,A2,c2,A3,c3,hagg,-⟩:=ht.agg;injection hagg with hagg;simp only[ykbZ,ygbZ,ymbZ]at hagg;obtain⟨rfl,rfl,rfl,rfl,rfl,rfl,rfl⟩:=hagg;rw[yGZ]at k0 k1 k2 k3 k4 k5 k6;have hg:=World.block_lt_of_cell? W0 ⟨g,_,none⟩ k0;refine⟨g,off,A0,c0,A1,c1,A2,c2,A3,c3,rfl,ht,fun W hb=>?_⟩;have up:∀ {j:Nat} {u:Value},W0.cell? ⟨g,j,none⟩=some u->W.cell? ⟨g,j,none⟩=some u:=fun {j u} hj=>(World.cell?_of_block (hb.block g hg)).trans hj;exact⟨yJZ hg hb.size,up k0,up k1,up k2,up k3,up k4,up k5,up k6⟩
end Go.Proofs.YtdncljdfmdgdaaaGreatDoor
namespace Go.Proofs.YtdncljdfmdgdaaaGreatDoor
open Go.RowKit Go.Shelf
def Sub (W W':World):Prop:=∀(g j:Nat) (u:Value),W.cell? ⟨g,j,none⟩=some u->W'.cell? ⟨g,j,none⟩=some u
theorem Sub.trans {a b c:World} (h:Sub a b) (k:Sub b c):Sub a c:=fun g j u e=>k g j u (h g j u e)
theorem Sub.of_below {W W':World} (h:Below W.heap.size W W'):Sub W W':=fun g j u e=>(World.cell?_of_block (h.block g (World.block_lt_of_cell? W ⟨g,j,none⟩ e))).trans e
theorem StrRow.sub {W W':World} {v:Value} {ns:List Lx.Bytes} (h:StrRow W v ns) (hb:Sub W W'):StrRow W' v ns:=by
 obtain⟨A,c,rfl,hi⟩:=h;refine⟨A,c,rfl,fun i hl=>?_⟩;obtain⟨g,off,hA,hc⟩:=hi i hl;exact⟨g,off,hA,hb _ _ _ hc⟩
theorem BoolRow.sub {W W':World} {v:Value} {es:List Bool} (h:BoolRow W v es) (hb:Sub W W'):BoolRow W' v es:=by
 obtain⟨A,c,rfl,hi⟩:=h;refine⟨A,c,rfl,fun i hl=>?_⟩;obtain⟨g,off,hA,hc⟩:=hi i hl;exact⟨g,off,hA,hb _ _ _ hc⟩
mutual
theorem IsTy.sub {W W':World} (hb:Sub W W'):∀(t:Sx.Ty) (v:Value),IsTy W v t->IsTy W' v t
 | .mk k nm ns es ps,v,h=>by rw[IsTy]at h ⊢;obtain⟨vn,ve,A,c,hv,h1,h2,h4,h3⟩:=h;exact⟨vn,ve,A,c,hv,h1.sub hb,h2.sub hb,h4,IsTys.sub hb ps A 0 h3⟩
theorem IsTys.sub {W W':World} (hb:Sub W W'):∀(l:List Sx.Ty) (A:Option Addr) (i:Nat),IsTys W A i l->IsTys W' A i l
 | [],A,i,h=>by rw[IsTys];trivial
 | t::l,A,i,h=>by rw[IsTys]at h ⊢;obtain⟨⟨g,off,v0,v1,v2,v3,v4,hA,h0,h1,h2,h3,h4,ht⟩,hl⟩:=h;exact⟨⟨g,off,v0,v1,v2,v3,v4,hA,hb _ _ _ h0,hb _ _ _ h1,hb _ _ _ h2,hb _ _ _ h3,hb _ _ _ h4,IsTy.sub hb t _ ht⟩,IsTys.sub hb l A (i+1) hl⟩
end
theorem TyRow.sub {W W':World} {v:Value} {l:List Sx.Ty} (h:TyRow W v l) (hb:Sub W W'):TyRow W' v l:=by
 obtain⟨A,c,rfl,hc,hl⟩:=h;exact⟨A,c,rfl,hc,IsTys.sub hb l A 0 hl⟩
mutual
theorem IsEx.sub {W W':World} (hb:Sub W W'):∀(t:Sx.Ex) (v:Value),IsEx W v t->IsEx W' v t
 | .mk pos k n s t ns ps,v,h=>by rw[IsEx]at h ⊢;obtain⟨vt,vn,A0,c0,hv,h0,h1,a0,b0,e0,e1⟩:=h;exact⟨vt,vn,A0,c0,hv,h0.sub hb,h1.sub hb,a0,IsExs.sub hb ps A0 0 b0,e0,e1⟩
theorem IsExs.sub {W W':World} (hb:Sub W W'):∀(l:List Sx.Ex) (A:Option Addr) (i:Nat),IsExs W A i l->IsExs W' A i l
 | [],A,i,h=>by rw[IsExs];trivial
 | t::l,A,i,h=>by rw[IsExs]at h ⊢;obtain⟨⟨g,off,v0,v1,v2,v3,v4,v5,v6,hA,k0,k1,k2,k3,k4,k5,k6,ht⟩,hl⟩:=h;exact⟨⟨g,off,v0,v1,v2,v3,v4,v5,v6,hA,hb _ _ _ k0,hb _ _ _ k1,hb _ _ _ k2,hb _ _ _ k3,hb _ _ _ k4,hb _ _ _ k5,hb _ _ _ k6,IsEx.sub hb t _ ht⟩,IsExs.sub hb l A (i+1) hl⟩
end
theorem ExRow.sub {W W':World} {v:Value} {l:List Sx.Ex} (h:ExRow W v l) (hb:Sub W W'):ExRow W' v l:=by
 obtain⟨A,c,rfl,hc,hl⟩:=h;exact⟨A,c,rfl,hc,IsExs.sub hb l A 0 hl⟩
mutual
theorem IsSt.sub {W W':World} (hb:Sub W W'):∀(t:Sx.St) (v:Value),IsSt W v t->IsSt W' v t
 | .mk pos k nm t x b e,v,h=>by rw[IsSt]at h ⊢;obtain⟨vt,vx,A0,c0,A1,c1,hv,h0,h1,a0,b0,a1,b1⟩:=h;exact⟨vt,vx,A0,c0,A1,c1,hv,h0.sub hb,h1.sub hb,a0,IsSts.sub hb b A0 0 b0,a1,IsSts.sub hb e A1 0 b1⟩
theorem IsSts.sub {W W':World} (hb:Sub W W'):∀(l:List Sx.St) (A:Option Addr) (i:Nat),IsSts W A i l->IsSts W' A i l
 | [],A,i,h=>by rw[IsSts];trivial
 | t::l,A,i,h=>by rw[IsSts]at h ⊢;obtain⟨⟨g,off,v0,v1,v2,v3,v4,v5,v6,hA,k0,k1,k2,k3,k4,k5,k6,ht⟩,hl⟩:=h;exact⟨⟨g,off,v0,v1,v2,v3,v4,v5,v6,hA,hb _ _ _ k0,hb _ _ _ k1,hb _ _ _ k2,hb _ _ _ k3,hb _ _ _ k4,hb _ _ _ k5,hb _ _ _ k6,IsSt.sub hb t _ ht⟩,IsSts.sub hb l A (i+1) hl⟩
end
theorem StRow.sub {W W':World} {v:Value} {l:List Sx.St} (h:StRow W v l) (hb:Sub W W'):StRow W' v l:=by
 obtain⟨A,c,rfl,hc,hl⟩:=h;exact⟨A,c,rfl,hc,IsSts.sub hb l A 0 hl⟩
def only (W:World) (S:Nat->Bool):World:={ W with heap:=W.heap.mapIdx fun i o=>if S i then o else .cells #[] 0 (0,0) }
theorem zdeZ (W:World) (S:Nat->Bool) (g j:Nat):(only W S).cell? ⟨g,j,none⟩=if S g then W.cell? ⟨g,j,none⟩else none:=by
 unfold only World.cell?;simp only[Array.getElem?_mapIdx]
 cases h:W.heap[g]? with
 | none=>simp
 | some o=>cases hs:S g <;> simp[hs]
theorem zsgZ (W:World) (S:Nat->Bool):Sub (only W S) W:=by
 intro g j u h;rw[zdeZ]at h;split at h
 ·exact h
 ·cases h
theorem znZ {W W':World} {S S':Nat->Bool} (h:∀g,g<W.heap.size->S g=true->S' g=true/\W'.heap[g]? =W.heap[g]?):Sub (only W S) (only W' S'):=by
 intro g j u e;rw[zdeZ]at e ⊢;split at e
 ·rename_i hs;obtain⟨h1,h2⟩:=h g (World.block_lt_of_cell? W ⟨g,j,none⟩ e) hs;rw[if_pos h1];exact(World.cell?_of_block h2).trans e
 ·cases e
def since (L:Nat):Nat->Bool:=fun g=>decide (L<=g)
def but (L:Nat) (x g:Option Nat):Nat->Bool:=fun b=>decide (L<=b)&&(some b != x&&some b != g)
theorem zmZ {L g:Nat} : since L g=true↔L<=g:=by simp[since]
theorem zxZ {L b:Nat} {x g:Option Nat} : but L x g b=true↔L<=b/\some b≠x/\some b≠g:=by simp[but]
/-! ### a row that is filled -/
def Own {α:Type} (R:World->List Value->α->Prop) (e size L:Nat) (X:Option Nat) (w:World) (v:Value) (l:List α):Prop:=
 ∃xss:List (List Value),w.ownsRow L e size v l.length xss.flatten/\xss.length=l.length/\(v.ownBlock=X->X=none)/\
  ∀i (h:i<l.length),∃cs,xss[i]? =some cs/\cs.length=size/\R (only w (but L X v.ownBlock)) cs (l[i]'h)
theorem Own.nil {α:Type} {R:World->List Value->α->Prop} {e size L:Nat} {X:Option Nat} {w:World} : Own R e size L X w (.slice none 0 0) []:=
 ⟨[],yOZ w L e size,rfl,fun h=>h.symm,fun i h=>by simp at h⟩
theorem Own.slice {α:Type} {R:World->List Value->α->Prop} {e size L:Nat} {X:Option Nat} {w:World} {v:Value} {l:List α} (h:Own R e size L X w v l):∃A c,v=.slice A l.length c:=by
 obtain⟨xss,ho,-⟩:=h;rcases ho.2 with⟨rfl,h0⟩ | ⟨g,cap,cur,rfl,-⟩
 ·exact⟨none,0,by rw[h0]⟩
 ·exact⟨_,cap,rfl⟩
theorem Own.lt {α:Type} {R:World->List Value->α->Prop} {e size L:Nat} {X:Option Nat} {w:World} {v:Value} {l:List α} (h:Own R e size L X w v l):∀b,v.ownBlock=some b->L<=b/\b<w.heap.size:=by
 obtain⟨xss,ho,-⟩:=h;exact fun b hb=>World.ownsRow.lt ho b hb
theorem Own.keep {α:Type} {R:World->List Value->α->Prop} (hR:∀W W' cs t,Sub W W'->R W cs t->R W' cs t) {e size L:Nat} {X:Option Nat} {w w':World} {v:Value} {l:List α} (h:Own R e size L X w v l)
  (hk:∀g,g<w.heap.size->L<=g->some g≠X->w'.heap[g]? =w.heap[g]?):Own R e size L X w' v l:=by
 obtain⟨xss,ho,hl,hx,hr⟩:=h;refine⟨xss,⟨ho.1,?_⟩,hl,hx,fun i hi=>?_⟩
 ·rcases ho.2 with hn | ⟨g,cap,cur,rfl,hb,hg,rest⟩
  ·exact .inl hn
  ·refine .inr ⟨g,cap,cur,rfl,hb,(hk g (zaZ hg) hb ?_).trans hg,rest⟩;intro e;have:=hx e;rw[this]at e;cases e
 ·obtain⟨cs,h1,h2,h3⟩:=hr i hi;refine⟨cs,h1,h2,hR _ _ _ _ (znZ fun g hg hs=>⟨hs,?_⟩) h3⟩;obtain⟨h4,h5,-⟩:=zxZ.1 hs;exact hk g hg h4 h5
theorem Own.go {α:Type} {R:World->List Value->α->Prop} (hR:∀W W' cs t,Sub W W'->R W cs t->R W' cs t) {e size L:Nat} {X:Option Nat} {w w':World} {v:Value} {l:List α} (h:Own R e size L X w v l)
  (hb:Below w.heap.size w w'):Own R e size L X w' v l:=h.keep hR fun g hg _ _=>hb.block g hg
theorem zdjZ {P:Program} {w:World} {o:Oper} {a:Act} {K:Act->World->Prop} {Q:Exit->Act->World->Prop} (s x:Operand) (t:TypeId)
  (ho:o.op=.call { callee:=.builtin .append,args:=#[s,x],argTypes:=#[t,t] })
  (base:Nat) (e:TypeId) (i:TypeInfo) (z:Value) (size bytes:Nat) (ht:P.underlying t=some (.slice e)) (hi:P.info? e=some i) (hz:i.zero=some z)
  (hsize:i.size=size) (hby:i.bytes=bytes) (hzs:z.cells.size=size) (hsz:0<size)
  (v:Value) (n:Nat) (xs:List Value) (hs:a.eval s=v) (hown:w.ownsRow base e size v n xs)
  (ad:Addr) (m c:Nat) (news:List Value) (hx:a.eval x=.slice (some ad) m c) (hl:news.length=m * size) (hnews:∀j u,news[j]? =some u->w.cell? (ad.add j)=some u) (h1:∀u∈news,u.oneCell'=true)
  (h63:n+m<=maxLen) (hbytes:(n+m) * bytes<=140737488355328) (hbase:base<=w.heap.size)
  (h:∀v' w',w'.ownsRow base e size v' (n+m) (xs++news)->w.grownBy w' v.ownBlock->(v'.ownBlock=v.ownBlock\/v'.ownBlock=some w.heap.size)->K (a.put o.dst v') w'):o.wp P a w K Q:=by
 obtain⟨v',w',hr,h2,h3,h4,h5⟩:=run_append_own_at (P:=P) w base t o.type e i z size bytes ht hi hz hsize hby hzs hsz v n xs hown ad m c news hl hnews h1 h63 hbytes hbase;unfold Oper.wp execOp;simp only[ho,resolve,invoke,builtin,Sem.run_bind,Sem.run_pure,Result.andThen_ok,yIZ,yPZ,yRZ,hs,hx,hr];exact h v' w' h2 h3 h5
theorem zngZ {α:Type} {R:World->List Value->α->Prop} (hR:∀W W' cs t,Sub W W'->R W cs t->R W' cs t) {P:Program} {w:World} {o:Oper} {a:Act} {K:Act->World->Prop} {Q:Exit->Act->World->Prop} (s x:Operand) (t:TypeId)
  (ho:o.op=.call { callee:=.builtin .append,args:=#[s,x],argTypes:=#[t,t] })
  {e size L:Nat} {X:Option Nat} {v:Value} {n:Nat} {l:List α} (hown:Own R e size L X w v l) (hln:l.length=n) {z:Value} {bytes:Nat} (ht:P.underlying t=some (.slice e)) (hi:(P.info? e).map (fun i=>(i.zero,i.size,i.bytes))=some (some z,size,bytes)) (hzs:z.cells.size=size) (hsz:0<size)
  (hs:a.eval s=v) {k c:Nat} {cs:List Value} {cf:Array Value} (hcf:cf.toList=cs) {u:α} {B:Nat} (hx:a.eval x=.slice (some ⟨k,0,none⟩) 1 c) (hk:w.heap[k]? =some (.cells cf e (0,0))) (hcs:cs.length=size) (h1:∀u∈cs,u.oneCell'=true)
  (hr:R (only w (since B)) cs u) (hLB:L<=B) (hBw:B<=w.heap.size) (hXB:∀b,X=some b->b<B) (hgB:∀b,v.ownBlock=some b->b<B)
  (hn:n+1<=1000000) (hby:bytes<=1000)
  (h:∀A c w',Own R e size L X w' (.slice A (n+1) c) (l++[u])->w.grownBy w' v.ownBlock->K (a.put o.dst (.slice A (n+1) c)) w'):o.wp P a w K Q:=by
 subst hln;obtain⟨xss,hrow,hl,hxx,hel⟩:=hown;obtain⟨i,hi1,hi2⟩:=yibZ.1 hi;simp only[Prod.mk.injEq]at hi2;obtain⟨i1,i2,i3⟩:=hi2;refine zdjZ s x t ho L e i z size bytes ht hi1 i1 i2 i3 hzs hsz v l.length xss.flatten hs hrow ⟨k,0,none⟩ 1 c cs hx (by rw[hcs,Nat.one_mul]) ?_ h1 (by unfold maxLen;omega) ?_ (by omega) ?_
 ·intro j q hj;rw[zclZ,yGZ,zdZ hk,<-Array.getElem?_toList,hcf];exact hj
 ·have:=Nat.mul_le_mul hn hby;omega
 ·intro v' w' hown' hg H1;have H0:∀b,v'.ownBlock=some b->v.ownBlock=some b\/b=w.heap.size:=by
   intro b hb;rcases H1 with h | h
   ·exact .inl (h.symm.trans hb)
   ·right;rw[h]at hb;injection hb with hb;exact hb.symm
  have H2:∃A c,v'=.slice A (l.length+1) c:=by
   rcases hown'.2 with⟨rfl,h0⟩ | ⟨g,cap,cur,rfl,-⟩
   ·omega
   ·exact⟨_,cap,rfl⟩
  obtain⟨A',c',rfl⟩:=H2;refine h A' c' w' ⟨xss++[cs],by simpa using hown',by simp[hl],?_,fun j hj=>?_⟩ hg
  ·intro he;by_cases hne:X=none
   ·exact hne
   ·obtain⟨b,hb⟩:=Option.ne_none_iff_exists'.1 hne;rw[hb]at he;rcases H0 b he with h | h
    ·exact hxx (h.trans hb.symm)
    ·have:=hXB b hb;omega
  ·by_cases hjl:j<l.length
   ·obtain⟨cs',e1,e2,e3⟩:=hel j hjl;refine⟨cs',by rw[List.getElem?_append_left (by omega)];exact e1,e2,?_⟩;rw[List.getElem_append_left hjl];refine hR _ _ _ _ (znZ fun g hgw hs=>?_) e3;obtain⟨p1,p2,p3⟩:=zxZ.1 hs;refine⟨zxZ.2 ⟨p1,p2,fun e=>?_⟩,hg.block g hgw p3⟩;rcases H0 g e.symm with h | h
    ·exact p3 h.symm
    ·omega
   ·obtain rfl:j=l.length:=(by simp at hj;omega);refine⟨cs,by rw[List.getElem?_append_right (by omega),hl,Nat.sub_self];rfl,hcs,?_⟩;rw[List.getElem_append_right (ybZ _)];simp only[Nat.sub_self,List.getElem_cons_zero];refine hR _ _ _ _ (znZ fun g hgw hs=>?_) hr;have hB:=zmZ.1 hs;refine⟨zxZ.2 ⟨by omega,fun e=>?_,fun e=>?_⟩,hg.block g hgw fun e=>?_⟩
    ·have:=hXB g e.symm;omega
    ·rcases H0 g e.symm with h | h
     ·have:=hgB g h;omega
     ·omega
    ·have:=hgB g e.symm;omega
theorem zshZ {α:Type} {R:World->List Value->α->Prop} (hR:∀W W' cs t,Sub W W'->R W cs t->R W' cs t) {P:Program} {w:World} {ops:Array Oper} {o:Oper} {a:Act} {K:Act->World->Prop} {Q:Exit->Act->World->Prop} {Z:Prop} (hgd:o.guard=none) (s x:Operand) (t:TypeId)
  (ho:o.op=.call { callee:=.builtin .append,args:=#[s,x],argTypes:=#[t,t] })
  {e size L:Nat} {X:Option Nat} {v:Value} {n:Nat} {l:List α} (hown:Own R e size L X w v l) (hln:l.length=n) {z:Value} {bytes:Nat} (ht:P.underlying t=some (.slice e)) (hi:(P.info? e).map (fun i=>(i.zero,i.size,i.bytes))=some (some z,size,bytes)) (hzs:z.cells.size=size) (hsz:0<size)
  (hs:a.eval s=v) {k c:Nat} {cs:List Value} {cf:Array Value} (hcf:cf.toList=cs) {u:α} {B:Nat} (hx:a.eval x=.slice (some ⟨k,0,none⟩) 1 c) (hk:w.heap[k]? =some (.cells cf e (0,0))) (hcs:cs.length=size) (h1:∀u∈cs,u.oneCell'=true)
  (hr:R (only w (since B)) cs u) (hLB:L<=B) (hBw:B<=w.heap.size) (hXB:∀b,X=some b->b<B) (hgB:∀b,v.ownBlock=some b->b<B)
  (hn:n+1<=1000000) (hby:bytes<=1000)
  (h:∀A c w',Own R e size L X w' (.slice A (n+1) c) (l++[u])->w.grownBy w' v.ownBlock->K (a.put o.dst (.slice A (n+1) c)) w'):if Region.wanted o (yielded ops a.tmps)=true then o.wp P a w K Q else Z:=by
 rw[if_pos (by simp[Region.wanted,hgd])];exact zngZ hR s x t ho hown hln ht hi hzs hsz hs hcf hx hk hcs h1 hr hLB hBw hXB hgB hn hby h
theorem zmoZ {α:Type} {R:World->List Value->α->Prop} (hR:∀W W' cs t,Sub W W'->R W cs t->R W' cs t) {P:Program} {w:World} {ops:Array Oper} {rest:List Oper} {o:Oper} {a:Act} {Q:Exit->Act->World->Prop} (hgd:o.guard=none) (s x:Operand) (t:TypeId)
  (ho:o.op=.call { callee:=.builtin .append,args:=#[s,x],argTypes:=#[t,t] })
  {e size L:Nat} {X:Option Nat} {v:Value} {n:Nat} {l:List α} (hown:Own R e size L X w v l) (hln:l.length=n) {z:Value} {bytes:Nat} (ht:P.underlying t=some (.slice e)) (hi:(P.info? e).map (fun i=>(i.zero,i.size,i.bytes))=some (some z,size,bytes)) (hzs:z.cells.size=size) (hsz:0<size)
  (hs:a.eval s=v) {k c:Nat} {cs:List Value} {cf:Array Value} (hcf:cf.toList=cs) {u:α} {B:Nat} (hx:a.eval x=.slice (some ⟨k,0,none⟩) 1 c) (hk:w.heap[k]? =some (.cells cf e (0,0))) (hcs:cs.length=size) (h1:∀u∈cs,u.oneCell'=true)
  (hr:R (only w (since B)) cs u) (hLB:L<=B) (hBw:B<=w.heap.size) (hXB:∀b,X=some b->b<B) (hgB:∀b,v.ownBlock=some b->b<B)
  (hn:n+1<=1000000) (hby:bytes<=1000)
  (h:∀A c w',Own R e size L X w' (.slice A (n+1) c) (l++[u])->w.grownBy w' v.ownBlock->wpList P ops Q rest (a.put o.dst (.slice A (n+1) c)) w'):wpList P ops Q (o::rest) a w:=
 wpList_plain hgd fun K hK=>zngZ hR s x t ho hown hln ht hi hzs hsz hs hcf hx hk hcs h1 hr hLB hBw hXB hgB hn hby fun A c w' h2 h3=>hK _ _ (h A c w' h2 h3)
def RTy (W:World) (cs:List Value) (t:Sx.Ty):Prop:=∃v0 v1 v2 v3 v4,cs=[v0,v1,v2,v3,v4]/\IsTy W (.agg #[v0,v1,v2,v3,v4]) t
theorem RTy.sub (W W':World) (cs:List Value) (t:Sx.Ty) (hb:Sub W W') (h:RTy W cs t):RTy W' cs t:=by
 obtain⟨v0,v1,v2,v3,v4,rfl,h⟩:=h;exact⟨v0,v1,v2,v3,v4,rfl,IsTy.sub hb t _ h⟩
def REx (W:World) (cs:List Value) (t:Sx.Ex):Prop:=∃v0 v1 v2 v3 v4 v5 v6,cs=[v0,v1,v2,v3,v4,v5,v6]/\IsEx W (.agg #[v0,v1,v2,v3,v4,v5,v6]) t
theorem REx.sub (W W':World) (cs:List Value) (t:Sx.Ex) (hb:Sub W W') (h:REx W cs t):REx W' cs t:=by
 obtain⟨v0,v1,v2,v3,v4,v5,v6,rfl,h⟩:=h;exact⟨v0,v1,v2,v3,v4,v5,v6,rfl,IsEx.sub hb t _ h⟩
def RSt (W:World) (cs:List Value) (t:Sx.St):Prop:=∃v0 v1 v2 v3 v4 v5 v6,cs=[v0,v1,v2,v3,v4,v5,v6]/\IsSt W (.agg #[v0,v1,v2,v3,v4,v5,v6]) t
theorem RSt.sub (W W':World) (cs:List Value) (t:Sx.St) (hb:Sub W W') (h:RSt W cs t):RSt W' cs t:=by
 obtain⟨v0,v1,v2,v3,v4,v5,v6,rfl,h⟩:=h;exact⟨v0,v1,v2,v3,v4,v5,v6,rfl,IsSt.sub hb t _ h⟩
theorem zlfZ {size:Nat} : ∀ {xss:List (List Value)} (_:∀x∈xss,x.length=size) {i j:Nat} {cs:List Value} (_:xss[i]? =some cs) (_:j<size),xss.flatten[i * size+j]? =cs[j]?
 | [],_,i,j,cs,h,_=>by simp at h
 | x::xss,hx,0,j,cs,h,hj=>by simp at h;subst h;have:=hx x ysZ;rw[List.flatten_cons,yrZ,yGZ,List.getElem?_append_left (by omega)]
 | x::xss,hx,i+1,j,cs,h,hj=>by have h1:=hx x ysZ;rw[List.flatten_cons,List.getElem?_append_right (by rw[h1,Nat.succ_mul];omega),h1,show(i+1) * size+j-size=i * size+j by rw[Nat.succ_mul];omega];exact zlfZ (fun y hy=>hx y (ywZ _ hy)) (by simpa using h) hj
theorem Own.at {α:Type} {R:World->List Value->α->Prop} (hR:∀W W' cs t,Sub W W'->R W cs t->R W' cs t) {e size L:Nat} {X:Option Nat} {w:World} {v:Value} {l:List α} (h:Own R e size L X w v l) :
  ∃A c,v=.slice A l.length c/\l.length<=c/\∀m (hm:m<l.length),∃g cs,A=some ⟨g,0,none⟩/\cs.length=size/\(∀j,j<size->(only w (but L X none)).cell? ⟨g,0+m * size+j,none⟩=cs[j]?)/\R (only w (but L X none)) cs (l[m]'hm):=by
 obtain⟨xss,ho,hl,hx,hr⟩:=h;have H0:∀x∈xss,x.length=size:=by intro x hx;obtain⟨i,hi,rfl⟩:=List.getElem_of_mem hx;obtain⟨cs,h1,h2,-⟩:=hr i (by omega);rw[List.getElem?_eq_getElem hi]at h1;injection h1 with h1;rw[h1];exact h2
 rcases ho.2 with⟨rfl,h0⟩ | ⟨g,cap,cur,rfl,hb,hg,hnc,hcm,hcs,htake⟩
 ·exact⟨none,0,by rw[h0],by omega,fun m hm=>by omega⟩
 ·refine⟨_,cap,rfl,hnc,fun m hm=>?_⟩;obtain⟨cs,h1,h2,h3⟩:=hr m hm;refine⟨g,cs,rfl,h2,fun j hj=>?_,hR _ _ _ _ (znZ fun b hbw hs=>?_) h3⟩
  ·have hXg:some g≠X:=fun e=>(by have:=hx e;rw[this]at e;cases e);rw[zdeZ,if_pos ((zxZ (L:=L) (x:=X) (g:=none)).2 ⟨hb,hXg,fun e=>nomatch e⟩),zdZ hg,<-zlfZ H0 h1 hj,<-htake,yGZ,List.getElem?_take_of_lt,Array.getElem?_toList];have:(m+1) * size<=l.length * size:=Nat.mul_le_mul_right _ hm;rw[Nat.succ_mul]at this;omega
  ·obtain⟨p1,p2,p3⟩:=zxZ.1 hs;exact⟨(zxZ (L:=L) (x:=X) (g:=none)).2 ⟨p1,p2,fun e=>nomatch e⟩,rfl⟩
theorem IsTys.mk {W:World} {A:Option Addr} : ∀ {l:List Sx.Ty} {k:Nat},(∀(m:Nat) (h:m<l.length),∃g off v0 v1 v2 v3 v4,A=some ⟨g,off,none⟩/\W.cell? ⟨g,off+(k+m) * 5,none⟩=some v0/\W.cell? ⟨g,off+(k+m) * 5+1,none⟩=some v1/\
  W.cell? ⟨g,off+(k+m) * 5+2,none⟩=some v2/\W.cell? ⟨g,off+(k+m) * 5+3,none⟩=some v3/\W.cell? ⟨g,off+(k+m) * 5+4,none⟩=some v4/\IsTy W (.agg #[v0,v1,v2,v3,v4]) (l[m]'h))->IsTys W A k l
 | [],k,h=>by rw[IsTys];trivial
 | t::l,k,h=>by rw[IsTys];refine⟨h 0 (yVZ _),IsTys.mk fun m hm=>?_⟩;have:=h (m+1) (by simpa using hm);rw[show k+(m+1)=k+1+m by omega]at this;exact this
theorem Own.tys {e L:Nat} {X:Option Nat} {w:World} {v:Value} {l:List Sx.Ty} (h:Own RTy e 5 L X w v l):TyRow (only w (but L X none)) v l:=by
 obtain⟨A,c,rfl,hc,hm⟩:=h.at RTy.sub;refine⟨A,c,rfl,hc,IsTys.mk fun m h=>?_⟩;obtain⟨g,cs,rfl,hl,hj,v0,v1,v2,v3,v4,rfl,hr⟩:=hm m h;rw[yGZ m];exact⟨g,0,v0,v1,v2,v3,v4,rfl,hj 0 (by decide),hj 1 (by decide),hj 2 (by decide),hj 3 (by decide),hj 4 (by decide),hr⟩
theorem IsExs.mk {W:World} {A:Option Addr} : ∀ {l:List Sx.Ex} {k:Nat},(∀(m:Nat) (h:m<l.length),∃g off v0 v1 v2 v3 v4 v5 v6,A=some ⟨g,off,none⟩/\W.cell? ⟨g,off+(k+m) * 7,none⟩=some v0/\W.cell? ⟨g,off+(k+m) * 7+1,none⟩=some v1/\
  W.cell? ⟨g,off+(k+m) * 7+2,none⟩=some v2/\W.cell? ⟨g,off+(k+m) * 7+3,none⟩=some v3/\W.cell? ⟨g,off+(k+m) * 7+4,none⟩=some v4/\W.cell? ⟨g,off+(k+m) * 7+5,none⟩=some v5/\W.cell? ⟨g,off+(k+m) * 7+6,none⟩=some v6/\
  IsEx W (.agg #[v0,v1,v2,v3,v4,v5,v6]) (l[m]'h))->IsExs W A k l
 | [],k,h=>by rw[IsExs];trivial
 | t::l,k,h=>by rw[IsExs];refine⟨h 0 (yVZ _),IsExs.mk fun m hm=>?_⟩;have:=h (m+1) (by simpa using hm);rw[show k+(m+1)=k+1+m by omega]at this;exact this
theorem Own.exs {e L:Nat} {X:Option Nat} {w:World} {v:Value} {l:List Sx.Ex} (h:Own REx e 7 L X w v l):ExRow (only w (but L X none)) v l:=by
 obtain⟨A,c,rfl,hc,hm⟩:=h.at REx.sub;refine⟨A,c,rfl,hc,IsExs.mk fun m h=>?_⟩;obtain⟨g,cs,rfl,hl,hj,v0,v1,v2,v3,v4,v5,v6,rfl,hr⟩:=hm m h;rw[yGZ m];exact⟨g,0,v0,v1,v2,v3,v4,v5,v6,rfl,hj 0 (by decide),hj 1 (by decide),hj 2 (by decide),hj 3 (by decide),hj 4 (by decide),hj 5 (by decide),hj 6 (by decide),hr⟩
theorem IsSts.mk {W:World} {A:Option Addr} : ∀ {l:List Sx.St} {k:Nat},(∀(m:Nat) (h:m<l.length),∃g off v0 v1 v2 v3 v4 v5 v6,A=some ⟨g,off,none⟩/\W.cell? ⟨g,off+(k+m) * 7,none⟩=some v0/\W.cell? ⟨g,off+(k+m) * 7+1,none⟩=some v1/\
  W.cell? ⟨g,off+(k+m) * 7+2,none⟩=some v2/\W.cell? ⟨g,off+(k+m) * 7+3,none⟩=some v3/\W.cell? ⟨g,off+(k+m) * 7+4,none⟩=some v4/\W.cell? ⟨g,off+(k+m) * 7+5,none⟩=some v5/\W.cell? ⟨g,off+(k+m) * 7+6,none⟩=some v6/\
  IsSt W (.agg #[v0,v1,v2,v3,v4,v5,v6]) (l[m]'h))->IsSts W A k l
 | [],k,h=>by rw[IsSts];trivial
 | t::l,k,h=>by rw[IsSts];refine⟨h 0 (yVZ _),IsSts.mk fun m hm=>?_⟩;have:=h (m+1) (by simpa using hm);rw[show k+(m+1)=k+1+m by omega]at this;exact this
theorem Own.sts {e L:Nat} {X:Option Nat} {w:World} {v:Value} {l:List Sx.St} (h:Own RSt e 7 L X w v l):StRow (only w (but L X none)) v l:=by
 obtain⟨A,c,rfl,hc,hm⟩:=h.at RSt.sub;refine⟨A,c,rfl,hc,IsSts.mk fun m h=>?_⟩;obtain⟨g,cs,rfl,hl,hj,v0,v1,v2,v3,v4,v5,v6,rfl,hr⟩:=hm m h;rw[yGZ m];exact⟨g,0,v0,v1,v2,v3,v4,v5,v6,rfl,hj 0 (by decide),hj 1 (by decide),hj 2 (by decide),hj 3 (by decide),hj 4 (by decide),hj 5 (by decide),hj 6 (by decide),hr⟩
/-! ### append(nil, row...) -/
theorem zgaZ {P:Program} (w:World) (t ty e:TypeId) (i:TypeInfo) (ht:P.underlying t=some (.slice e)) (hi:P.info? e=some i) (c:Nat) :
  (Builtin.append_ #[t,t] ty #[.slice none 0 0,.slice none 0 c]).run P w=.ok (.slice none 0 0) w:=by
 simp[Builtin.append_,run_underlying ht,sizeOf,typeInfo,hi,Builtin.lenOf,Builtin.firstCells]
theorem zfoZ {P:Program} {w:World} {o:Oper} {a:Act} {K:Act->World->Prop} {Q:Exit->Act->World->Prop} (s x:Operand) (t:TypeId)
  (ho:o.op=.call { callee:=.builtin .append,args:=#[s,x],argTypes:=#[t,t] })
  {e bytes:Nat} {z:Value} (ht:P.underlying t=some (.slice e)) (hi:(P.info? e).map (fun i=>(i.zero,i.size,i.bytes))=some (some z,1,bytes)) (hzs:z.cells.size=1)
  (hs:a.eval s=.slice none 0 0) {A:Option Addr} {n c:Nat} {news:List Value} (hl:news.length=n) (hx:a.eval x=.slice A n c)
  (hA:∀j u,news[j]? =some u->∃g off,A=some ⟨g,off,none⟩/\w.cell? ⟨g,off+j,none⟩=some u) (h1:∀u∈news,u.oneCell'=true)
  (hn:n<=1000000) (hby:bytes<=1000)
  (h:∀A c w',w'.ownsRow w.heap.size e 1 (.slice A n c) n news->Below w.heap.size w w'->K (a.put o.dst (.slice A n c)) w'):o.wp P a w K Q:=by
 subst hl;obtain⟨i,hi1,hi2⟩:=yibZ.1 hi;simp only[Prod.mk.injEq]at hi2;obtain⟨i1,i2,i3⟩:=hi2
 cases A with
 | none=>
  have H1:news=[]:=by
   cases news with
   | nil=>rfl
   | cons u l=>obtain⟨g,off,h,-⟩:=hA 0 u rfl;cases h
  subst H1;have H2:=zgaZ (P:=P) w t o.type e i ht hi1 c;unfold Oper.wp execOp;simp only[ynZ]at hx;simp only[ho,resolve,invoke,builtin,Sem.run_bind,Sem.run_pure,Result.andThen_ok,yIZ,yPZ,yRZ,hs,hx,H2];exact h _ _ _ (yOZ w _ e 1) (yqZ _ _)
 | some ad=>
  have H0:∀j u,news[j]? =some u->w.cell? (ad.add j)=some u:=(by intro j u hj;obtain⟨g,off,hg,hc⟩:=hA j u hj;injection hg with hg;subst hg;rw[zclZ];exact hc);refine zdjZ s x t ho w.heap.size e i z 1 bytes ht hi1 i1 i2 i3 hzs Nat.one_pos _ 0 [] hs (yOZ w _ e 1) ad news.length c news hx (by omega) H0 h1 (by unfold maxLen;omega) ?_ (ybZ _) ?_
  ·have:=Nat.mul_le_mul hn hby;rw[yGZ];omega
  ·intro v' w' hown hg _;rw[yGZ]at hown;have H3:∃A c,v'=.slice A news.length c:=by
    rcases hown.2 with⟨rfl,h0⟩ | ⟨g,cap,cur,rfl,-⟩
    ·exact⟨none,0,by rw[h0]⟩
    ·exact⟨_,cap,rfl⟩
   obtain⟨A',c',rfl⟩:=H3;exact h A' c' w' (by simpa using hown) ⟨hg.os,hg.tape,hg.output,hg.size,fun k hk=>hg.block k hk (by simp[Value.ownBlock])⟩
theorem zlgZ {w:World} {L e:Nat} {v:Value} {ns:List Lx.Bytes} (h:w.ownsRow L e 1 v ns.length (strsV ns)):StrRow (only w (since L)) v ns:=by
 rcases h.2 with⟨rfl,h0⟩ | ⟨g,cap,cur,rfl,hb,hg,_,_,_,ht⟩
 ·exact⟨none,0,by rw[h0],fun i hi=>by omega⟩
 ·refine⟨_,cap,rfl,fun i hi=>⟨g,0,rfl,?_⟩⟩;rw[zdeZ,if_pos (zmZ.2 hb),zdZ hg,yGZ,<-Array.getElem?_toList,<-List.getElem?_take_of_lt (l:=cur.toList) (j:=ns.length * 1) (by omega),ht];simp[strsV,hi]
theorem zkgZ {w:World} {L e:Nat} {v:Value} {ns:List Bool} (h:w.ownsRow L e 1 v ns.length (ns.map Value.bool)):BoolRow (only w (since L)) v ns:=by
 rcases h.2 with⟨rfl,h0⟩ | ⟨g,cap,cur,rfl,hb,hg,_,_,_,ht⟩
 ·exact⟨none,0,by rw[h0],fun i hi=>by omega⟩
 ·refine⟨_,cap,rfl,fun i hi=>⟨g,0,rfl,?_⟩⟩;rw[zdeZ,if_pos (zmZ.2 hb),zdZ hg,yGZ,<-Array.getElem?_toList,<-List.getElem?_take_of_lt (l:=cur.toList) (j:=ns.length * 1) (by omega),ht];simp[hi]
theorem zsiZ:(Tryz.prog.info? 4).map (fun i=>(i.zero,i.size,i.bytes))=some (some (.bool false),1,1):=by kernel_rfl
theorem zlhZ:(Tryz.prog.info? 26).map (fun i=>(i.zero,i.size,i.bytes))=some (some (.agg #[.int .i64 0,.string ⟨#[]⟩,.slice none 0 0,.slice none 0 0,.slice none 0 0]),5,96):=by kernel_rfl
theorem zgbZ (ns:List Lx.Bytes):∀u∈strsV ns,u.oneCell'=true:=by
 intro u hu;unfold strsV at hu;obtain⟨s,-,rfl⟩:=List.mem_map.1 hu;rfl
theorem StrRow.cells {W:World} {A:Option Addr} {k c:Nat} {ns:List Lx.Bytes} (h:StrRow W (.slice A k c) ns):k=ns.length/\∀j u,(strsV ns)[j]? =some u->∃g off,A=some ⟨g,off,none⟩/\W.cell? ⟨g,off+j,none⟩=some u:=by
 obtain⟨A',c',hv,hl⟩:=h;injection hv with h1 h2 h3;subst h1;refine⟨h2,fun j u hj=>?_⟩;unfold strsV at hj;obtain⟨s,hs,rfl⟩:=List.getElem?_map .. ▸hj |> yibZ.1;obtain⟨hlt,rfl⟩:=List.getElem?_eq_some_iff.1 hs;exact hl j hlt
theorem BoolRow.cells {W:World} {A:Option Addr} {k c:Nat} {es:List Bool} (h:BoolRow W (.slice A k c) es):k=es.length/\∀j u,(es.map Value.bool)[j]? =some u->∃g off,A=some ⟨g,off,none⟩/\W.cell? ⟨g,off+j,none⟩=some u:=by
 obtain⟨A',c',hv,hl⟩:=h;injection hv with h1 h2 h3;subst h1;refine⟨h2,fun j u hj=>?_⟩;obtain⟨s,hs,rfl⟩:=List.getElem?_map .. ▸hj |> yibZ.1;obtain⟨hlt,rfl⟩:=List.getElem?_eq_some_iff.1 hs;exact hl j hlt
theorem zjcZ {w:World} {o:Oper} {a:Act} {K:Act->World->Prop} {Q:Exit->Act->World->Prop} (s x:Operand)
  (ho:o.op=.call { callee:=.builtin .append,args:=#[s,x],argTypes:=#[22, 22] })
  (hs:a.eval s=.slice none 0 0) {A:Option Addr} {n c:Nat} {ns:List Lx.Bytes} (hx:a.eval x=.slice A n c) (hr:StrRow w (.slice A n c) ns) (hn:n<=1000000)
  (h:∀A c w',StrRow (only w' (since w.heap.size)) (.slice A n c) ns->Below w.heap.size w w'->K (a.put o.dst (.slice A n c)) w'):o.wp Tryz.prog a w K Q:=by
 obtain⟨hk,hc⟩:=hr.cells;refine zfoZ s x 22 ho Tryz.underlying22 zdsZ rfl hs (news:=strsV ns) (by unfold strsV;rw[List.length_map,hk]) hx hc (zgbZ ns) hn (by omega) ?_;intro A' c' w' hown hb;refine h A' c' w' ?_ hb;rw[hk]at hown ⊢;exact zlgZ hown
theorem zijZ {w:World} {o:Oper} {a:Act} {K:Act->World->Prop} {Q:Exit->Act->World->Prop} (s x:Operand)
  (ho:o.op=.call { callee:=.builtin .append,args:=#[s,x],argTypes:=#[23, 23] })
  (hs:a.eval s=.slice none 0 0) {A:Option Addr} {n c:Nat} {ns:List Bool} (hx:a.eval x=.slice A n c) (hr:BoolRow w (.slice A n c) ns) (hn:n<=1000000)
  (h:∀A c w',BoolRow (only w' (since w.heap.size)) (.slice A n c) ns->Below w.heap.size w w'->K (a.put o.dst (.slice A n c)) w'):o.wp Tryz.prog a w K Q:=by
 obtain⟨hk,hc⟩:=hr.cells;refine zfoZ s x 23 ho Tryz.underlying23 zsiZ rfl hs (news:=ns.map Value.bool) (by rw[List.length_map,hk]) hx hc (fun u hu=>by obtain⟨b,-,rfl⟩:=List.mem_map.1 hu;rfl) hn (by omega) ?_;intro A' c' w' hown hb;refine h A' c' w' ?_ hb;rw[hk]at hown ⊢;exact zkgZ hown
theorem zdfZ {w:World} {ops:Array Oper} {rest:List Oper} {o:Oper} {a:Act} {Q:Exit->Act->World->Prop} (hgd:o.guard=none) (s x:Operand)
  (ho:o.op=.call { callee:=.builtin .append,args:=#[s,x],argTypes:=#[22, 22] })
  (hs:a.eval s=.slice none 0 0) {A:Option Addr} {n c:Nat} {ns:List Lx.Bytes} (hx:a.eval x=.slice A n c) (hr:StrRow w (.slice A n c) ns) (hn:n<=1000000)
  (h:∀A c w',StrRow (only w' (since w.heap.size)) (.slice A n c) ns->Below w.heap.size w w'->wpList Tryz.prog ops Q rest (a.put o.dst (.slice A n c)) w'):wpList Tryz.prog ops Q (o::rest) a w:=
 wpList_plain hgd fun K hK=>zjcZ s x ho hs hx hr hn fun A c w' h2 h3=>hK _ _ (h A c w' h2 h3)
theorem zfsZ {w:World} {ops:Array Oper} {rest:List Oper} {o:Oper} {a:Act} {Q:Exit->Act->World->Prop} (hgd:o.guard=none) (s x:Operand)
  (ho:o.op=.call { callee:=.builtin .append,args:=#[s,x],argTypes:=#[23, 23] })
  (hs:a.eval s=.slice none 0 0) {A:Option Addr} {n c:Nat} {ns:List Bool} (hx:a.eval x=.slice A n c) (hr:BoolRow w (.slice A n c) ns) (hn:n<=1000000)
  (h:∀A c w',BoolRow (only w' (since w.heap.size)) (.slice A n c) ns->Below w.heap.size w w'->wpList Tryz.prog ops Q rest (a.put o.dst (.slice A n c)) w'):wpList Tryz.prog ops Q (o::rest) a w:=
 wpList_plain hgd fun K hK=>zijZ s x ho hs hx hr hn fun A c w' h2 h3=>hK _ _ (h A c w' h2 h3)
end Go.Proofs.YtdncljdfmdgdaaaGreatDoor
namespace Go.Proofs.YtdncljdfmdgdaaaGreatDoor
open Go.RowKit Go.Shelf Go.WideMaps
def Wri (B b:Nat) (x:Sx.Wr) (w:World):Prop:=
 B<=b/\∃p v,w.heap[b]? =some (.cells #[.pointer p,v,.int .i64 (x.n:Nat)] 104 (0,0))/\(p=none\/p=some ⟨b,0,none⟩)/\OwnB w B v x.b/\(x.b=[]->v=.slice none 0 0)
def KeepW (w w':World):Prop:=∀(k:Nat) (cs:Array Value) (t:TypeId) (fr:Nat×Nat),w.heap[k]? =some (Obj.cells cs t fr)->t≠ 5 ->t≠ 104 ->w'.heap[k]? =some (Obj.cells cs t fr)
theorem KeepW.refl (w:World):KeepW w w:=fun _ _ _ _ h _ _=>h
theorem KeepW.trans {a b c:World} (h:KeepW a b) (h':KeepW b c):KeepW a c:=fun k cs t fr hk h1 h2=>h' k cs t fr (h k cs t fr hk h1 h2) h1 h2
theorem KeepW.grown {w w':World} {row:Option Nat} (hg:w.grownBy w' row) (hr:∀j,row=some j->∀cs t fr,w.heap[j]? =some (.cells cs t fr)->t= 5):KeepW w w':=by
 intro k cs t fr hk h1 h2;refine(hg.block k (zaZ hk) (fun e=>?_)).trans hk;exact h1 (hr k e.symm cs t fr hk)
theorem KeepW.set {w:World} {b:Nat} {cs:Array Value} {fr:Nat×Nat} (h:w.heap[b]? =some (.cells cs 104 fr)) (j:Nat) (u:Value):KeepW w (w.setCell ⟨b,j,none⟩ u):=by
 intro k cs t fr hk h1 h2;refine(yuZ w ⟨b,j,none⟩ u k ?_).trans hk;rintro rfl;rw[show w.heap[k]? =_ from h]at hk;injection hk with hk;injection hk with _ hk;exact h2 hk.symm
theorem KeepW.drew (w:World):KeepW w w.drew:=fun _ _ _ _ h _ _=>h
theorem zsjZ:(Tryz.prog.info? 100).map (·.size)=some 2:=by kernel_rfl
theorem zskZ:liesAt Tryz.prog Tryz.prog.depth 104 (3 / Tryz.prog.cellsOf 104) 0 100 1=true:=by kernel_rfl
theorem zslZ (b:Nat) (w:World) (h0:w.cell? ⟨b,0,none⟩=some (.pointer none)) (hsh:w.shape? b=some (104,3)) (hfz:w.frozen? ⟨b,0,none⟩=false) :
  Calls Tryz.prog 129 #[.pointer (some ⟨b,0,none⟩)] w fun e w'=>e=.returned (.tuple #[])/\w'=w.setCell ⟨b,0,none⟩ (.pointer (some ⟨b,0,none⟩)):=by
 obtain⟨j,hj,hjs⟩:=yibZ.1 zsjZ;go_enter Tryz.func129, Tryz.ntmps129;go_wp2;rw[Lib.run_to_unsafe w ⟨b,0,none⟩ Tryz.underlying97 Tryz.underlying187 hj (by rw[hjs];decide) hsh (Nat.zero_lt_succ 2)];simp only[Result.andThen];rw[Oper.upon_value];go_wp2;rw[run_callFunc_extern Tryz.func148 (by kernel_rfl) (by kernel_rfl) (by kernel_rfl) (e:=Extern.AbiNoEscape.same) (by kernel_rfl)];rw[Lib.run_noEscape];simp only[Result.andThen];rw[Oper.upon_value];go_wp2;rw[Lib.run_from_unsafe w ⟨b,0,none⟩ Tryz.underlying187 Tryz.underlying97 hj hsh zskZ];simp only[Result.andThen];rw[Oper.upon_value];go_wp2;go_end0;exact⟨rfl,rfl⟩
def WriAt (B b:Nat) (v:Value) (x:Sx.Wr) (w:World):Prop:=
 B<=b/\w.heap[b]? =some (.cells #[.pointer (some ⟨b,0,none⟩),v,.int .i64 (x.n:Nat)] 104 (0,0))/\OwnB w B v x.b/\(x.b=[]->v=.slice none 0 0)
theorem WriAt.wri {B b:Nat} {v:Value} {x:Sx.Wr} {w:World} (h:WriAt B b v x w):Wri B b x w:=⟨h.1,_,_,h.2.1,.inr rfl,h.2.2⟩
theorem zjdZ {w:World} {B b:Nat} {v:Value} {l:List UInt8} {cs:Array Value} {fr:Nat×Nat} (ho:OwnB w B v l) (hb:w.heap[b]? =some (.cells cs 104 fr)):some b≠v.ownBlock:=by
 intro e;obtain⟨_,c,h2⟩:=zckZ ho b e.symm;rw[hb]at h2;injection h2 with h2;injection h2 with _ h2;exact absurd h2 (by decide)
theorem zczZ {w:World} {B b j:Nat} {v:Value} {l:List UInt8} {cs:Array Value} {fr:Nat×Nat} (ho:OwnB w B v l) (hb:w.heap[b]? =some (.cells cs 104 fr)) (u:Value):OwnB (w.setCell ⟨b,j,none⟩ u) B v l:=
 World.ownsRow.kept ho (ziZ w b j u) (.inr (fun e=>zjdZ ho hb e.symm))
theorem zliZ (B b:Nat) (x:Sx.Wr) (w:World) (h:Wri B b x w) :
  Calls Tryz.prog 129 #[.pointer (some ⟨b,0,none⟩)] w fun e w'=>e=.returned (.tuple #[])/\(∃v,WriAt B b v x w')/\Below B w w'/\KeepW w w':=by
 obtain⟨hB,p,v,hb,hp,ho,hx⟩:=h;rcases hp with rfl | rfl
 ·refine(zslZ b w (zdZ hb 0) (by simp[World.shape?,hb]) (zsZ hb 0)).mono ?_;rintro e w' ⟨rfl,rfl⟩;exact⟨rfl,⟨v,hB,by simp[World.setCell,Array.getElem?_modify,hb],zczZ ho hb _,hx⟩,(yqZ B w).setCell (p:=⟨b,0,none⟩) hB _,KeepW.set hb 0 _⟩
 ·refine(zndZ b w (zdZ hb 0)).mono ?_;rintro e w' ⟨rfl,rfl⟩;exact⟨rfl,⟨v,hB,hb,ho,hx⟩,yqZ B _,KeepW.refl _⟩
theorem zpjZ (B b:Nat) (x:Sx.Wr) (w:World) (h:Wri B b x w) :
  Calls Tryz.prog 92 #[.pointer (some ⟨b,0,none⟩)] w fun e w'=>e=.returned (.int .i64 (x.b.length:Nat))/\w'=w:=by
 obtain⟨hB,p,v,hb,hp,ho,hx⟩:=h;obtain⟨A,c,rfl⟩:=OwnB.slice ho;have c1:w.cell? ⟨b,1,none⟩=some (.slice A x.b.length c):=zdZ hb 1;go_enter Tryz.func92, Tryz.ntmps92;go_wp2;go_ret;exact⟨rfl,rfl⟩
theorem zuvZ (B b:Nat) (x:Sx.Wr) (c:UInt8) (w:World) (h:Wri B b x w) (hlen:x.b.length+1<=140737488351232) (hBw:B<=w.heap.size) :
  Calls Tryz.prog 93 #[.pointer (some ⟨b,0,none⟩),.int .u8 (c.toNat:Int)] w fun e w'=>e=.returned .nilIface/\Wri B b ⟨x.b++[c],x.n⟩ w'/\Below B w w'/\KeepW w w':=by
 go_enter Tryz.func93, Tryz.ntmps93
 go_wp2_with (go_at_call 129;refine(zliZ B b x _ h).mono ?_)
 rintro e w1 ⟨rfl,⟨v,hB,H1,ho,hx⟩,H4,H8⟩;have H7:b<w1.heap.size:=zaZ H1;have c0:w1.cell? ⟨b,0,none⟩=some (.pointer (some ⟨b,0,none⟩)):=zdZ H1 0;have c1:w1.cell? ⟨b,1,none⟩=some v:=zdZ H1 1;have Ha:=H4.size;go_wp2_with (at_builtin;refine zcnZ B rfl _ _ rfl v x.b c rfl rfl ho (by omega) (by omega) ?_);intro v2 w2 H2 H5;have hg:w1.grownBy w2 v.ownBlock:=(yeZ w1 _ _).trans H5;have H0:w2.heap[b]? =some (.cells #[.pointer (some ⟨b,0,none⟩),v,.int .i64 (x.n:Nat)] 104 (0,0)):=(hg.block b H7 (zjdZ ho H1)).trans H1;have f1:w2.frozen? ⟨b,1,none⟩=false:=zsZ H0 1;have c2:w2.cell? ⟨b,1,none⟩=some v:=zdZ H0 1;have H9:b<w2.heap.size:=zaZ H0;obtain⟨A2,k2,hv2⟩:=OwnB.slice H2;rw[show(x.b++[c]).length=x.b.length+1 by simp]at hv2;subst hv2;have H6:=zh H2;have HO:=zh ho;have H3:=zh H0;have HG:=zh hg;clear hg H5 H2 ho H0;go_wp2;go_ret;refine⟨rfl,⟨hB,_,_,by simp[World.setCell,Array.getElem?_modify,H3.o],.inr rfl,zczZ H6.o H3.o _,fun e=>by simp at e⟩,?_,?_⟩
 ·exact(H4.grown HG.o (by omega) (fun k hk=>OwnB.base HO.o k hk)).setCell (p:=⟨b,1,none⟩) hB _
 ·refine(H8.trans (KeepW.grown HG.o ?_)).trans (KeepW.set H3.o 1 _);intro j e cs t fr hj;obtain⟨_,c,h2⟩:=zckZ HO.o j e;rw[h2]at hj;injection hj with hj;injection hj with _ hj;exact hj.symm
theorem zpkZ (B b:Nat) (x:Sx.Wr) (s:Lx.Bytes) (w:World) (h:Wri B b x w) (hs:s≠[]) (hlen:x.b.length+s.length<=140737488351232) (hBw:B<=w.heap.size) :
  Calls Tryz.prog 94 #[.pointer (some ⟨b,0,none⟩),.string ⟨s.toArray⟩] w fun e w'=>(∃u,e=.returned u)/\Wri B b ⟨x.b++s,x.n⟩ w'/\Below B w w'/\KeepW w w':=by
 obtain⟨i0,hi,hz0,hz1,hz2⟩:=info_parts zddZ;obtain⟨S,hS⟩:∃S:ByteArray,(⟨s.toArray⟩:ByteArray)=S:=⟨_,rfl⟩;have H6:S.data.toList=s:=by rw[<-hS]
 have H2:S.size=s.length:=by rw[<-hS];simp[ByteArray.size]
 rw[hS];have Ha:=zh H6;have H7:=zh H2;have H5:x.b.length+S.size<=140737488351232:=by omega
 clear H6 H2 hS;go_enter Tryz.func94, Tryz.ntmps94;go_wp2_with (go_at_call 129;refine(zliZ B b x _ h).mono ?_);rintro e w1 ⟨rfl,⟨v,hB,H0,ho,hx⟩,H8,Hc⟩;have Hb:b<w1.heap.size:=zaZ H0;have c0:w1.cell? ⟨b,0,none⟩=some (.pointer (some ⟨b,0,none⟩)):=zdZ H0 0;have c1:w1.cell? ⟨b,1,none⟩=some v:=zdZ H0 1;have He:=H8.size;have hown:=ho;unfold OwnB at hown;go_wp2_with (at_builtin;refine Lib.wpList_append_own_string (P:= Tryz.prog) (w:=w1) rfl _ _ 98 9 rfl B 5 i0 Tryz.underlying98 Tryz.underlying9 hi hz0 hz1 hz2 _ _ _ rfl hown S rfl (by unfold maxLen;omega) (by omega) (by omega) ?_);intro v2 w2 hown' hg _;have H1:w2.heap[b]? =some (.cells #[.pointer (some ⟨b,0,none⟩),v,.int .i64 (x.n:Nat)] 104 (0,0)):=(hg.block b Hb (zjdZ ho H0)).trans H0;have H3:OwnB w2 B v2 (x.b++s):=by unfold OwnB;have e:bytesV (x.b++s)=bytesV x.b++Lib.strCells S:=(by simp[bytesV,Lib.strCells,Ha.o]);rw[e,ycZ,<-H7.o];exact hown'
 have f1:w2.frozen? ⟨b,1,none⟩=false:=zsZ H1 1;have c2:w2.cell? ⟨b,1,none⟩=some v:=zdZ H1 1;have Hd:b<w2.heap.size:=zaZ H1;obtain⟨A2,k2,hv2⟩:=OwnB.slice H3;rw[show(x.b++s).length=x.b.length+S.size by rw[ycZ,H7.o]]at hv2;subst hv2;have H9:=zh H3;have HO:=zh ho;have H4:=zh H1;have HG:=zh hg;clear hg H3 ho H1 hown hown';go_wp2;refine ylZ (yDZ rfl _ _ _) rfl ?_;refine⟨⟨_,rfl⟩,⟨hB,_,_,by simp[World.setCell,Array.getElem?_modify,H4.o],.inr rfl,zczZ H9.o H4.o _,fun e=>absurd (List.append_eq_nil_iff.1 e).2 hs⟩,?_,?_⟩
 ·exact(H8.grown HG.o (by omega) (fun k hk=>OwnB.base HO.o k hk)).setCell (p:=⟨b,1,none⟩) hB _
 ·refine(Hc.trans (KeepW.grown HG.o ?_)).trans (KeepW.set H4.o 1 _);intro j e cs t fr hj;obtain⟨_,c,h2⟩:=zckZ HO.o j e;rw[h2]at hj;injection hj with hj;injection hj with _ hj;exact hj.symm
end Go.Proofs.YtdncljdfmdgdaaaGreatDoor
namespace Go.Proofs.YtdncljdfmdgdaaaGreatDoor.Sx
open Go.Proofs.YtdncljdfmdgdaaaGreatDoor.Lx (Bytes)
def textFrom:Nat->Bytes->List Bytes->Option Bytes
 | _,b,[]=>some b
 | i,b,s::l=>
  if 65536<((if 0<i then b++[32]else b)++s).length then none
  else textFrom (i+1) ((if 0<i then b++[32]else b)++s) l
def text (l:List Bytes):Bytes×Nat:=
 match textFrom 0 [] l with
 | none=>([],2)
 | some b=>if 4096<l.length then([],3)else(b,0)
theorem puts_cons (w:Wr) (s:Bytes) (l:List Bytes):puts w (s::l)=puts (put w s) l:=rfl
theorem puts_n:∀(l:List Bytes) (w:Wr),(puts w l).n=w.n+l.length
 | [],w=>rfl
 | s::l,w=>by rw[puts_cons,puts_n l];simp[put];omega
theorem zjpZ:∀(l:List Bytes) (w:Wr),65536<w.b.length->65536<(puts w l).b.length
 | [],w,h=>h
 | s::l,w,h=>by rw[puts_cons];refine zjpZ l _ ?_;unfold put;rw[if_pos h];exact h
theorem zjqZ:∀(l:List Bytes) (b:Bytes) (i:Nat),(∀s∈l,s≠[])->b.length<=65536->(0<i↔0<b.length)->
  (textFrom i b l=none->65536<(puts ⟨b,i⟩ l).b.length)/\(∀c,textFrom i b l=some c->(puts ⟨b,i⟩ l).b=c/\c.length<=65536)
 | [],b,i,_,hb,_=>⟨fun h=>by simp[textFrom]at h,fun c h=>by simp only[textFrom]at h;injection h with h;subst h;exact⟨rfl,hb⟩⟩
 | s::l,b,i,hs,hb,hi=>by
  have H0:put ⟨b,i⟩ s=⟨(if 0<i then b++[32]else b)++s,i+1⟩:=by
   unfold put;rw[if_neg (by simp only;omega)];by_cases h:0<i
   ·rw[if_pos h,if_pos (hi.1 h)]
   ·rw[if_neg h,if_neg (fun h'=>h (hi.2 h'))]
  rw[puts_cons,H0,textFrom];have H1:s≠[]:=hs s (ysZ ..);have H2:0<s.length:=List.length_pos_iff.2 H1;by_cases hlong:65536<((if 0<i then b++[32]else b)++s).length
  ·rw[if_pos hlong];exact⟨fun _=>zjpZ l _ hlong,fun c h=>by cases h⟩
  ·rw[if_neg hlong];refine zjqZ l _ (i+1) (fun x hx=>hs x (ywZ _ hx)) (by omega) ⟨fun _=>?_,fun _=>by omega⟩;rw[ycZ];omega
theorem told_text {l:List Bytes} (hs:∀s∈l,s≠[]):told true (puts ⟨[],0⟩ l)=text l:=by
 have h:=zjqZ l [] 0 hs (by simp) (by simp);have hn:=puts_n l ⟨[],0⟩;unfold told text;simp only[Bool.not_true,Bool.false_eq_true,yXZ]
 cases ht:textFrom 0 [] l with
 | none=>rw[if_pos (h.1 ht)]
 | some c=>obtain⟨h1,h2⟩:=h.2 c ht;rw[h1,hn];simp only;rw[if_neg (by omega)];simp
end Go.Proofs.YtdncljdfmdgdaaaGreatDoor.Sx
