/-
  A row of bytes that came in.
-/
import Derived.Test.YtdncljdfmdgdaaaGreatDoorM9
import Derived.Test.YtdncljdfmdgdaaaGreatDoorM1
import Derived.Test.YtdncljdfmdgdaaaGreatDoorM8
set_option linter.unusedSimpArgs false
set_option linter.unusedVariables false
namespace Go.Proofs.YtdncljdfmdgdaaaGreatDoor
open Go.ChangeShapes Go.WideShapes Go.ChangeAt Go.RowKit
end Go.Proofs.YtdncljdfmdgdaaaGreatDoor
namespace Go.Proofs.YtdncljdfmdgdaaaGreatDoor.Sx
open Go.Proofs.YtdncljdfmdgdaaaGreatDoor.Lx (Bytes)
inductive Ty where
 | mk (kind:Int) (name:Bytes) (names:List Bytes) (embeds:List Bool) (parts:List Ty)
def Ty.kind:Ty→Int | .mk k _ _ _ _=>k
def Ty.name:Ty→Bytes | .mk _ n _ _ _=>n
def Ty.names:Ty→List Bytes | .mk _ _ ns _ _=>ns
def Ty.embeds:Ty→List Bool | .mk _ _ _ es _=>es
def Ty.parts:Ty→List Ty | .mk _ _ _ _ ps=>ps
mutual
def depth:Ty→Nat
 | .mk _ _ _ _ ps=>1+depthL ps
def depthL:List Ty→Nat
 | []=>0
 | t::l=>max (depth t) (depthL l)
end
mutual
def nodes:Ty→Nat
 | .mk k _ _ _ ps=>(if k=4 then 0 else 1)+nodesL ps
def nodesL:List Ty→Nat
 | []=>0
 | t::l=>nodes t+nodesL l
end
mutual
def allNames:Ty→List Bytes
 | .mk k n _ _ ps=>(if k=4 then [n]else [])++allNamesL ps
def allNamesL:List Ty→List Bytes
 | []=>[]
 | t::l=>allNames t++allNamesL l
end
def once:List Bytes→List Bytes→List Bytes
 | acc,[]=>acc
 | acc,s::l=>if acc.contains s then once acc l else once (acc++[s]) l
mutual
def size:Ty→Nat
 | .mk _ n ns es ps=>1+n.length+ns.length+es.length+(ns.map List.length).sum+sizeL ps
def sizeL:List Ty→Nat
 | []=>0
 | t::l=>size t+sizeL l
end
theorem depth_parts (t:Ty):depth t=1+depthL t.parts:=by cases t;rw[depth];rfl
theorem nodes_parts (t:Ty):nodes t=(if t.kind=4 then 0 else 1)+nodesL t.parts:=by cases t;rw[nodes];rfl
theorem names_parts (t:Ty):allNames t=(if t.kind=4 then [t.name]else [])++allNamesL t.parts:=by cases t;rw[allNames];rfl
theorem zdcZ:∀(l m:List Ty),nodesL (l++m)=nodesL l+nodesL m
 | [],m=>by simp[nodesL]
 | t::l,m=>by rw[List.cons_append,nodesL,nodesL,zdcZ l m];omega
theorem zddZ:∀(l m:List Ty),depthL (l++m)=max (depthL l) (depthL m)
 | [],m=>by simp[depthL]
 | t::l,m=>by rw[List.cons_append,depthL,depthL,zddZ l m];omega
theorem namesL_append:∀(l m:List Ty),allNamesL (l++m)=allNamesL l++allNamesL m
 | [],m=>by simp[allNamesL]
 | t::l,m=>by rw[List.cons_append,allNamesL,allNamesL,namesL_append l m,List.append_assoc]
theorem once_append:∀(a l m:List Bytes),once a (l++m)=once (once a l) m
 | a,[],m=>rfl
 | a,s::l,m=>by
  rw[List.cons_append,once,once]
  split
  ·exact once_append a l m
  ·exact once_append _ l m
/-! ### what is written -/
structure Wr where
 b:Bytes
 n:Nat
def put (w:Wr) (s:Bytes):Wr:=⟨if 65536<w.b.length then w.b else(if 0<w.b.length then w.b++[32]else w.b)++s,w.n+1⟩
def puts (w:Wr) (l:List Bytes):Wr:=l.foldl put w
theorem puts_append (w:Wr) (l m:List Bytes):puts w (l++m)=puts (puts w l) m:=by unfold puts;rw[List.foldl_append]
def told (right:Bool) (w:Wr):Bytes×Nat:=
 if !right then([],1)else if 65536<w.b.length then([],2)else if 4096<w.n then([],3)else(w.b,0)
mutual
def typ:Ty→List Bytes
 | .mk k n ns es ps=>
  if k=1 then [[105,110,116]]
  else if k=2 then [[98,111,111,108]]
  else if k=3 then [[116,101,120,116]]
  else if k=4 then [n]
  else if k=5 then [42]::typL ps
  else if k=6 then [[123]]++fields ns es ps++[[125]]
  else if k=7 then [[102,110]]++([[40]]++params 0 ps)
  else if k=8 then [[105,110,116,101,114,102,97,99,101],[123]]++methods ns ps++[[125]]
  else []
def typL:List Ty→List Bytes
 | []=>[]
 | t::_=>typ t
def fields:List Bytes→List Bool→List Ty→List Bytes
 | n::ns,e::es,t::ps=>(if e then [[101,109,98,101,100]]else [])++([n]++typ t++[[59]])++fields ns es ps
 | _,_,_=>[]
def params:Nat→List Ty→List Bytes
 | _,[]=>[]
 | i,t::l=>if l.isEmpty then [[41]]++typ t else(if 0<i then [[44]]else [])++typ t++params (i+1) l
def methods:List Bytes→List Ty→List Bytes
 | n::ns,t::ps=>[n]++signature t++[[59]]++methods ns ps
 | _,_=>[]
def signature:Ty→List Bytes
 | .mk _ _ _ _ ps=>[[40]]++params 0 ps
end
end Go.Proofs.YtdncljdfmdgdaaaGreatDoor.Sx
namespace Go.Proofs.YtdncljdfmdgdaaaGreatDoor
open Go.RowKit
def StrRow (W:World) (v:Value) (ns:List Lx.Bytes):Prop:=
 ∃A c,v=.slice A ns.length c∧∀i (h:i<ns.length),∃g off,A=some ⟨g,off,none⟩∧W.cell? ⟨g,off+i,none⟩=some (.string ⟨(ns[i]'h).toArray⟩)
def BoolRow (W:World) (v:Value) (es:List Bool):Prop:=
 ∃A c,v=.slice A es.length c∧∀i (h:i<es.length),∃g off,A=some ⟨g,off,none⟩∧W.cell? ⟨g,off+i,none⟩=some (.bool (es[i]'h))
mutual
def IsTy (W:World):Value→Sx.Ty→Prop
 | v,.mk k nm ns es ps=>∃vn ve A c,v=.agg #[.int .i64 k,.string ⟨nm.toArray⟩,vn,ve,.slice A ps.length c]∧StrRow W vn ns∧BoolRow W ve es∧ps.length≤c∧IsTys W A 0 ps
def IsTys (W:World) (A:Option Addr):Nat→List Sx.Ty→Prop
 | _,[]=>True
 | i,t::l=>(∃g off v0 v1 v2 v3 v4,A=some ⟨g,off,none⟩∧W.cell? ⟨g,off+i * 5,none⟩=some v0∧W.cell? ⟨g,off+i * 5+1,none⟩=some v1∧W.cell? ⟨g,off+i * 5+2,none⟩=some v2∧
   W.cell? ⟨g,off+i * 5+3,none⟩=some v3∧W.cell? ⟨g,off+i * 5+4,none⟩=some v4∧IsTy W (.agg #[v0,v1,v2,v3,v4]) t)∧IsTys W A (i+1) l
end
def TyRow (W:World) (v:Value) (l:List Sx.Ty):Prop:=∃A c,v=.slice A l.length c∧l.length≤c∧IsTys W A 0 l
theorem StrRow.below {W W':World} {v:Value} {ns:List Lx.Bytes} (h:StrRow W v ns) (hb:Below W.heap.size W W'):StrRow W' v ns:=by
 obtain⟨A,c,rfl,hi⟩:=h
 refine⟨A,c,rfl,fun i hl=>?_⟩
 obtain⟨g,off,hA,hc⟩:=hi i hl
 exact⟨g,off,hA,(World.cell?_of_block (hb.block g (World.block_lt_of_cell? W ⟨g,off+i,none⟩ hc))).trans hc⟩
theorem BoolRow.below {W W':World} {v:Value} {es:List Bool} (h:BoolRow W v es) (hb:Below W.heap.size W W'):BoolRow W' v es:=by
 obtain⟨A,c,rfl,hi⟩:=h
 refine⟨A,c,rfl,fun i hl=>?_⟩
 obtain⟨g,off,hA,hc⟩:=hi i hl
 exact⟨g,off,hA,(World.cell?_of_block (hb.block g (World.block_lt_of_cell? W ⟨g,off+i,none⟩ hc))).trans hc⟩
mutual
theorem IsTy.below {W W':World} (hb:Below W.heap.size W W'):∀(t:Sx.Ty) (v:Value),IsTy W v t→IsTy W' v t
 | .mk k nm ns es ps,v,h=>by
  rw[IsTy]at h ⊢
  obtain⟨vn,ve,A,c,hv,h1,h2,h4,h3⟩:=h
  exact⟨vn,ve,A,c,hv,h1.below hb,h2.below hb,h4,IsTys.below hb ps A 0 h3⟩
theorem IsTys.below {W W':World} (hb:Below W.heap.size W W'):∀(l:List Sx.Ty) (A:Option Addr) (i:Nat),IsTys W A i l→IsTys W' A i l
 | [],A,i,h=>by rw[IsTys];trivial
 | t::l,A,i,h=>by
  rw[IsTys]at h ⊢
  obtain⟨⟨g,off,v0,v1,v2,v3,v4,hA,h0,h1,h2,h3,h4,ht⟩,hl⟩:=h
  have hc:∀ {j:Nat} {u:Value},W.cell? ⟨g,j,none⟩=some u→W'.cell? ⟨g,j,none⟩=some u:=fun {j u} hj=>(World.cell?_of_block (hb.block g (World.block_lt_of_cell? W ⟨g,j,none⟩ hj))).trans hj
  exact⟨⟨g,off,v0,v1,v2,v3,v4,hA,hc h0,hc h1,hc h2,hc h3,hc h4,IsTy.below hb t _ ht⟩,IsTys.below hb l A (i+1) hl⟩
end
theorem TyRow.below {W W':World} {v:Value} {l:List Sx.Ty} (h:TyRow W v l) (hb:Below W.heap.size W W'):TyRow W' v l:=by
 obtain⟨A,c,rfl,hc,hl⟩:=h
 exact⟨A,c,rfl,hc,IsTys.below hb l A 0 hl⟩
theorem IsTys.at {W:World} {A:Option Addr} : ∀ {l:List Sx.Ty} {k:Nat},IsTys W A k l→∀(m:Nat) (h:m<l.length),∃g off v0 v1 v2 v3 v4,A=some ⟨g,off,none⟩∧W.cell? ⟨g,off+(k+m) * 5,none⟩=some v0∧W.cell? ⟨g,off+(k+m) * 5+1,none⟩=some v1∧
  W.cell? ⟨g,off+(k+m) * 5+2,none⟩=some v2∧W.cell? ⟨g,off+(k+m) * 5+3,none⟩=some v3∧W.cell? ⟨g,off+(k+m) * 5+4,none⟩=some v4∧IsTy W (.agg #[v0,v1,v2,v3,v4]) (l[m]'h)
 | t::l,k,h,0,hm=>by rw[IsTys]at h;exact h.1
 | t::l,k,h,m+1,hm=>by
  rw[IsTys]at h
  have:=IsTys.at h.2 m (by simpa using hm)
  rw[show k+1+m=k+(m+1)by omega]at this
  exact this
theorem IsTy.limbs {W:World} {v:Value} {t:Sx.Ty} (h:IsTy W v t):∃vn ve vp,v=.agg #[.int .i64 t.kind,.string ⟨t.name.toArray⟩,vn,ve,vp]∧StrRow W vn t.names∧BoolRow W ve t.embeds∧TyRow W vp t.parts:=by
 cases t with
 | mk k nm ns es ps=>
  rw[IsTy]at h
  obtain⟨vn,ve,A,c,hv,h1,h2,h4,h3⟩:=h
  exact⟨vn,ve,_,hv,h1,h2,A,c,rfl,h4,h3⟩
end Go.Proofs.YtdncljdfmdgdaaaGreatDoor
