/-
  Expressions and statements in memory.
-/
import Derived.Test.YtdncljdfmdgdaaaGreatDoorM1
import Derived.Test.YtdncljdfmdgdaaaGreatDoorM10
import Derived.Test.YtdncljdfmdgdaaaGreatDoorM11
import Derived.Maps.AppendAt
import Derived.Test.YtdncljdfmdgdaaaGreatDoorM3
set_option linter.unusedSimpArgs false
set_option linter.unusedVariables false
set_option maxRecDepth 100000
set_option maxHeartbeats 2000000
namespace Go.Proofs.YtdncljdfmdgdaaaGreatDoor
open Go.RowKit
def Sx.Ex.pos:Sx.Ex→Int | .mk p _ _ _ _ _ _=>p
def Sx.Ex.n:Sx.Ex→Int | .mk _ _ n _ _ _ _=>n
def Sx.Ex.s:Sx.Ex→Lx.Bytes | .mk _ _ _ s _ _ _=>s
def Sx.Ex.t:Sx.Ex→List Sx.Ty | .mk _ _ _ _ t _ _=>t
def Sx.Ex.names:Sx.Ex→List Lx.Bytes | .mk _ _ _ _ _ ns _=>ns
def Sx.St.pos:Sx.St→Int | .mk p _ _ _ _ _ _=>p
def Sx.St.name:Sx.St→Lx.Bytes | .mk _ _ n _ _ _ _=>n
def Sx.St.t:Sx.St→List Sx.Ty | .mk _ _ _ t _ _ _=>t
def Sx.St.x:Sx.St→List Sx.Ex | .mk _ _ _ _ x _ _=>x
def Sx.St.body:Sx.St→List Sx.St | .mk _ _ _ _ _ b _=>b
def Sx.St.els:Sx.St→List Sx.St | .mk _ _ _ _ _ _ e=>e
mutual
def IsEx (W:World):Value→Sx.Ex→Prop
 | v,.mk pos k n s t ns ps=>∃vt vn A0 c0,v=.agg #[.int .i64 pos,.int .i64 k,.int .i64 n,.string ⟨s.toArray⟩,vt,vn,.slice A0 ps.length c0]∧TyRow W vt t∧StrRow W vn ns∧ps.length≤c0∧IsExs W A0 0 ps∧-9223372036854775808≤n∧n≤9223372036854775807
def IsExs (W:World) (A:Option Addr):Nat→List Sx.Ex→Prop
 | _,[]=>True
 | i,t::l=>(∃g off v0 v1 v2 v3 v4 v5 v6,A=some ⟨g,off,none⟩∧W.cell? ⟨g,off+i * 7,none⟩=some v0∧W.cell? ⟨g,off+i * 7+1,none⟩=some v1∧W.cell? ⟨g,off+i * 7+2,none⟩=some v2∧W.cell? ⟨g,off+i * 7+3,none⟩=some v3∧W.cell? ⟨g,off+i * 7+4,none⟩=some v4∧W.cell? ⟨g,off+i * 7+5,none⟩=some v5∧W.cell? ⟨g,off+i * 7+6,none⟩=some v6∧IsEx W (.agg #[v0,v1,v2,v3,v4,v5,v6]) t)∧IsExs W A (i+1) l
end
def ExRow (W:World) (v:Value) (l:List Sx.Ex):Prop:=∃A c,v=.slice A l.length c∧l.length≤c∧IsExs W A 0 l
mutual
theorem IsEx.below {W W':World} (hb:Below W.heap.size W W'):∀(t:Sx.Ex) (v:Value),IsEx W v t→IsEx W' v t
 | .mk pos k n s t ns ps,v,h=>by
  rw[IsEx]at h ⊢
  obtain⟨vt,vn,A0,c0,hv,h0,h1,a0,b0,e0,e1⟩:=h
  exact⟨vt,vn,A0,c0,hv,h0.below hb,h1.below hb,a0,IsExs.below hb ps A0 0 b0,e0,e1⟩
theorem IsExs.below {W W':World} (hb:Below W.heap.size W W'):∀(l:List Sx.Ex) (A:Option Addr) (i:Nat),IsExs W A i l→IsExs W' A i l
 | [],A,i,h=>by rw[IsExs];trivial
 | t::l,A,i,h=>by
  rw[IsExs]at h ⊢
  obtain⟨⟨g,off,v0,v1,v2,v3,v4,v5,v6,hA,k0,k1,k2,k3,k4,k5,k6,ht⟩,hl⟩:=h
  have hc:∀ {j:Nat} {u:Value},W.cell? ⟨g,j,none⟩=some u→W'.cell? ⟨g,j,none⟩=some u:=fun {j u} hj=>(World.cell?_of_block (hb.block g (World.block_lt_of_cell? W ⟨g,j,none⟩ hj))).trans hj
  exact⟨⟨g,off,v0,v1,v2,v3,v4,v5,v6,hA,hc k0,hc k1,hc k2,hc k3,hc k4,hc k5,hc k6,IsEx.below hb t _ ht⟩,IsExs.below hb l A (i+1) hl⟩
end
theorem ExRow.below {W W':World} {v:Value} {l:List Sx.Ex} (h:ExRow W v l) (hb:Below W.heap.size W W'):ExRow W' v l:=by
 obtain⟨A,c,rfl,hc,hl⟩:=h
 exact⟨A,c,rfl,hc,IsExs.below hb l A 0 hl⟩
theorem IsExs.at {W:World} {A:Option Addr} : ∀ {l:List Sx.Ex} {k:Nat},IsExs W A k l→∀(m:Nat) (h:m<l.length),∃g off v0 v1 v2 v3 v4 v5 v6,A=some ⟨g,off,none⟩∧W.cell? ⟨g,off+(k+m) * 7,none⟩=some v0∧W.cell? ⟨g,off+(k+m) * 7+1,none⟩=some v1∧W.cell? ⟨g,off+(k+m) * 7+2,none⟩=some v2∧W.cell? ⟨g,off+(k+m) * 7+3,none⟩=some v3∧W.cell? ⟨g,off+(k+m) * 7+4,none⟩=some v4∧W.cell? ⟨g,off+(k+m) * 7+5,none⟩=some v5∧W.cell? ⟨g,off+(k+m) * 7+6,none⟩=some v6∧IsEx W (.agg #[v0,v1,v2,v3,v4,v5,v6]) (l[m]'h)
 | t::l,k,h,0,hm=>by rw[IsExs]at h;exact h.1
 | t::l,k,h,m+1,hm=>by
  rw[IsExs]at h
  have:=IsExs.at h.2 m (by simpa using hm)
  rw[show k+1+m=k+(m+1)by omega]at this
  exact this
theorem IsEx.agg {W:World} {v:Value} {t:Sx.Ex} (h:IsEx W v t):∃A0 c0 A1 c1 A2 c2,v=.agg #[.int .i64 t.pos,.int .i64 t.kind,.int .i64 t.n,.string ⟨t.s.toArray⟩,.slice A0 t.t.length c0,.slice A1 t.names.length c1,.slice A2 t.parts.length c2]∧TyRow W (.slice A0 t.t.length c0) t.t∧StrRow W (.slice A1 t.names.length c1) t.names∧ExRow W (.slice A2 t.parts.length c2) t.parts∧-9223372036854775808≤t.n∧t.n≤9223372036854775807:=by
 cases t with
 | mk pos k n s t ns ps=>
  rw[IsEx]at h
  obtain⟨vt,vn,A,c,rfl,⟨At,ct,rfl,ht1,ht2⟩,⟨An,cn,rfl,hn⟩,hc,hl,hn0,hn1⟩:=h
  exact⟨At,ct,An,cn,A,c,rfl,⟨At,ct,rfl,ht1,ht2⟩,⟨An,cn,rfl,hn⟩,⟨A,c,rfl,hc,hl⟩,hn0,hn1⟩
def CellsEx (W:World) (g j:Nat) (v0 v1 v2 v3 v4 v5 v6:Value):Prop:=g<W.heap.size∧W.cell? ⟨g,j,none⟩=some v0∧W.cell? ⟨g,j+1,none⟩=some v1∧W.cell? ⟨g,j+2,none⟩=some v2∧W.cell? ⟨g,j+3,none⟩=some v3∧W.cell? ⟨g,j+4,none⟩=some v4∧W.cell? ⟨g,j+5,none⟩=some v5∧W.cell? ⟨g,j+6,none⟩=some v6
theorem ExRow.spot {W0:World} {Ap:Option Addr} {k cp:Nat} {l:List Sx.Ex} (h:ExRow W0 (.slice Ap k cp) l) (m:Nat) (hm:m<l.length) :
  ∃g off A0 c0 A1 c1 A2 c2,Ap=some ⟨g,off,none⟩∧IsEx W0 (.agg #[.int .i64 (l[m]'hm).pos,.int .i64 (l[m]'hm).kind,.int .i64 (l[m]'hm).n,.string ⟨(l[m]'hm).s.toArray⟩,.slice A0 (l[m]'hm).t.length c0,.slice A1 (l[m]'hm).names.length c1,.slice A2 (l[m]'hm).parts.length c2]) (l[m]'hm)∧∀W,Below W0.heap.size W0 W→CellsEx W g (off+m * 7) (.int .i64 (l[m]'hm).pos) (.int .i64 (l[m]'hm).kind) (.int .i64 (l[m]'hm).n) (.string ⟨(l[m]'hm).s.toArray⟩) (.slice A0 (l[m]'hm).t.length c0) (.slice A1 (l[m]'hm).names.length c1) (.slice A2 (l[m]'hm).parts.length c2):=by
 obtain⟨A,c,hv,-,hl⟩:=h
 injection hv with h1 _ _
 subst h1
 obtain⟨g,off,v0,v1,v2,v3,v4,v5,v6,rfl,k0,k1,k2,k3,k4,k5,k6,ht⟩:=IsExs.at hl m hm
 obtain⟨A0,c0,A1,c1,A2,c2,hagg,-⟩:=ht.agg
 injection hagg with hagg
 simp only[Array.mk.injEq,List.cons.injEq,and_true]at hagg
 obtain⟨rfl,rfl,rfl,rfl,rfl,rfl,rfl⟩:=hagg
 rw[Nat.zero_add]at k0 k1 k2 k3 k4 k5 k6
 have hg:=World.block_lt_of_cell? W0 ⟨g,_,none⟩ k0
 refine⟨g,off,A0,c0,A1,c1,A2,c2,rfl,ht,fun W hb=>?_⟩
 have up:∀ {j:Nat} {u:Value},W0.cell? ⟨g,j,none⟩=some u→W.cell? ⟨g,j,none⟩=some u:=fun {j u} hj=>(World.cell?_of_block (hb.block g hg)).trans hj
 exact⟨Nat.lt_of_lt_of_le hg hb.size,up k0,up k1,up k2,up k3,up k4,up k5,up k6⟩
mutual
def IsSt (W:World):Value→Sx.St→Prop
 | v,.mk pos k nm t x b e=>∃vt vx A0 c0 A1 c1,v=.agg #[.int .i64 pos,.int .i64 k,.string ⟨nm.toArray⟩,vt,vx,.slice A0 b.length c0,.slice A1 e.length c1]∧TyRow W vt t∧ExRow W vx x∧b.length≤c0∧IsSts W A0 0 b∧e.length≤c1∧IsSts W A1 0 e
def IsSts (W:World) (A:Option Addr):Nat→List Sx.St→Prop
 | _,[]=>True
 | i,t::l=>(∃g off v0 v1 v2 v3 v4 v5 v6,A=some ⟨g,off,none⟩∧W.cell? ⟨g,off+i * 7,none⟩=some v0∧W.cell? ⟨g,off+i * 7+1,none⟩=some v1∧W.cell? ⟨g,off+i * 7+2,none⟩=some v2∧W.cell? ⟨g,off+i * 7+3,none⟩=some v3∧W.cell? ⟨g,off+i * 7+4,none⟩=some v4∧W.cell? ⟨g,off+i * 7+5,none⟩=some v5∧W.cell? ⟨g,off+i * 7+6,none⟩=some v6∧IsSt W (.agg #[v0,v1,v2,v3,v4,v5,v6]) t)∧IsSts W A (i+1) l
end
def StRow (W:World) (v:Value) (l:List Sx.St):Prop:=∃A c,v=.slice A l.length c∧l.length≤c∧IsSts W A 0 l
mutual
theorem IsSt.below {W W':World} (hb:Below W.heap.size W W'):∀(t:Sx.St) (v:Value),IsSt W v t→IsSt W' v t
 | .mk pos k nm t x b e,v,h=>by
  rw[IsSt]at h ⊢
  obtain⟨vt,vx,A0,c0,A1,c1,hv,h0,h1,a0,b0,a1,b1⟩:=h
  exact⟨vt,vx,A0,c0,A1,c1,hv,h0.below hb,h1.below hb,a0,IsSts.below hb b A0 0 b0,a1,IsSts.below hb e A1 0 b1⟩
theorem IsSts.below {W W':World} (hb:Below W.heap.size W W'):∀(l:List Sx.St) (A:Option Addr) (i:Nat),IsSts W A i l→IsSts W' A i l
 | [],A,i,h=>by rw[IsSts];trivial
 | t::l,A,i,h=>by
  rw[IsSts]at h ⊢
  obtain⟨⟨g,off,v0,v1,v2,v3,v4,v5,v6,hA,k0,k1,k2,k3,k4,k5,k6,ht⟩,hl⟩:=h
  have hc:∀ {j:Nat} {u:Value},W.cell? ⟨g,j,none⟩=some u→W'.cell? ⟨g,j,none⟩=some u:=fun {j u} hj=>(World.cell?_of_block (hb.block g (World.block_lt_of_cell? W ⟨g,j,none⟩ hj))).trans hj
  exact⟨⟨g,off,v0,v1,v2,v3,v4,v5,v6,hA,hc k0,hc k1,hc k2,hc k3,hc k4,hc k5,hc k6,IsSt.below hb t _ ht⟩,IsSts.below hb l A (i+1) hl⟩
end
theorem StRow.below {W W':World} {v:Value} {l:List Sx.St} (h:StRow W v l) (hb:Below W.heap.size W W'):StRow W' v l:=by
 obtain⟨A,c,rfl,hc,hl⟩:=h
 exact⟨A,c,rfl,hc,IsSts.below hb l A 0 hl⟩
theorem IsSts.at {W:World} {A:Option Addr} : ∀ {l:List Sx.St} {k:Nat},IsSts W A k l→∀(m:Nat) (h:m<l.length),∃g off v0 v1 v2 v3 v4 v5 v6,A=some ⟨g,off,none⟩∧W.cell? ⟨g,off+(k+m) * 7,none⟩=some v0∧W.cell? ⟨g,off+(k+m) * 7+1,none⟩=some v1∧W.cell? ⟨g,off+(k+m) * 7+2,none⟩=some v2∧W.cell? ⟨g,off+(k+m) * 7+3,none⟩=some v3∧W.cell? ⟨g,off+(k+m) * 7+4,none⟩=some v4∧W.cell? ⟨g,off+(k+m) * 7+5,none⟩=some v5∧W.cell? ⟨g,off+(k+m) * 7+6,none⟩=some v6∧IsSt W (.agg #[v0,v1,v2,v3,v4,v5,v6]) (l[m]'h)
 | t::l,k,h,0,hm=>by rw[IsSts]at h;exact h.1
 | t::l,k,h,m+1,hm=>by
  rw[IsSts]at h
  have:=IsSts.at h.2 m (by simpa using hm)
  rw[show k+1+m=k+(m+1)by omega]at this
  exact this
theorem IsSt.agg {W:World} {v:Value} {t:Sx.St} (h:IsSt W v t):∃A0 c0 A1 c1 A2 c2 A3 c3,v=.agg #[.int .i64 t.pos,.int .i64 t.kind,.string ⟨t.name.toArray⟩,.slice A0 t.t.length c0,.slice A1 t.x.length c1,.slice A2 t.body.length c2,.slice A3 t.els.length c3]∧TyRow W (.slice A0 t.t.length c0) t.t∧ExRow W (.slice A1 t.x.length c1) t.x∧StRow W (.slice A2 t.body.length c2) t.body∧StRow W (.slice A3 t.els.length c3) t.els:=by
 cases t with
 | mk pos k nm t x b e=>
  rw[IsSt]at h
  obtain⟨vt,vx,Ab,cb,Ae,ce,rfl,⟨At,ct,rfl,ht1,ht2⟩,⟨Ax,cx,rfl,hx1,hx2⟩,hb1,hb2,he1,he2⟩:=h
  exact⟨At,ct,Ax,cx,Ab,cb,Ae,ce,rfl,⟨At,ct,rfl,ht1,ht2⟩,⟨Ax,cx,rfl,hx1,hx2⟩,⟨Ab,cb,rfl,hb1,hb2⟩,⟨Ae,ce,rfl,he1,he2⟩⟩
def CellsSt (W:World) (g j:Nat) (v0 v1 v2 v3 v4 v5 v6:Value):Prop:=g<W.heap.size∧W.cell? ⟨g,j,none⟩=some v0∧W.cell? ⟨g,j+1,none⟩=some v1∧W.cell? ⟨g,j+2,none⟩=some v2∧W.cell? ⟨g,j+3,none⟩=some v3∧W.cell? ⟨g,j+4,none⟩=some v4∧W.cell? ⟨g,j+5,none⟩=some v5∧W.cell? ⟨g,j+6,none⟩=some v6
theorem StRow.spot {W0:World} {Ap:Option Addr} {k cp:Nat} {l:List Sx.St} (h:StRow W0 (.slice Ap k cp) l) (m:Nat) (hm:m<l.length) :
  ∃g off A0 c0 A1 c1 A2 c2 A3 c3,Ap=some ⟨g,off,none⟩∧IsSt W0 (.agg #[.int .i64 (l[m]'hm).pos,.int .i64 (l[m]'hm).kind,.string ⟨(l[m]'hm).name.toArray⟩,.slice A0 (l[m]'hm).t.length c0,.slice A1 (l[m]'hm).x.length c1,.slice A2 (l[m]'hm).body.length c2,.slice A3 (l[m]'hm).els.length c3]) (l[m]'hm)∧∀W,Below W0.heap.size W0 W→CellsSt W g (off+m * 7) (.int .i64 (l[m]'hm).pos) (.int .i64 (l[m]'hm).kind) (.string ⟨(l[m]'hm).name.toArray⟩) (.slice A0 (l[m]'hm).t.length c0) (.slice A1 (l[m]'hm).x.length c1) (.slice A2 (l[m]'hm).body.length c2) (.slice A3 (l[m]'hm).els.length c3):=by
 obtain⟨A,c,hv,-,hl⟩:=h
 injection hv with h1 _ _
 subst h1
 obtain⟨g,off,v0,v1,v2,v3,v4,v5,v6,rfl,k0,k1,k2,k3,k4,k5,k6,ht⟩:=IsSts.at hl m hm
 obtain⟨A0,c0,A1,c1,A2,c2,A3,c3,hagg,-⟩:=ht.agg
 injection hagg with hagg
 simp only[Array.mk.injEq,List.cons.injEq,and_true]at hagg
 obtain⟨rfl,rfl,rfl,rfl,rfl,rfl,rfl⟩:=hagg
 rw[Nat.zero_add]at k0 k1 k2 k3 k4 k5 k6
 have hg:=World.block_lt_of_cell? W0 ⟨g,_,none⟩ k0
 refine⟨g,off,A0,c0,A1,c1,A2,c2,A3,c3,rfl,ht,fun W hb=>?_⟩
 have up:∀ {j:Nat} {u:Value},W0.cell? ⟨g,j,none⟩=some u→W.cell? ⟨g,j,none⟩=some u:=fun {j u} hj=>(World.cell?_of_block (hb.block g hg)).trans hj
 exact⟨Nat.lt_of_lt_of_le hg hb.size,up k0,up k1,up k2,up k3,up k4,up k5,up k6⟩
end Go.Proofs.YtdncljdfmdgdaaaGreatDoor
namespace Go.Proofs.YtdncljdfmdgdaaaGreatDoor
open Go.RowKit Go.Shelf
def Sub (W W':World):Prop:=∀(g j:Nat) (u:Value),W.cell? ⟨g,j,none⟩=some u→W'.cell? ⟨g,j,none⟩=some u
theorem Sub.trans {a b c:World} (h:Sub a b) (k:Sub b c):Sub a c:=fun g j u e=>k g j u (h g j u e)
theorem Sub.of_below {W W':World} (h:Below W.heap.size W W'):Sub W W':=fun g j u e=>(World.cell?_of_block (h.block g (World.block_lt_of_cell? W ⟨g,j,none⟩ e))).trans e
theorem StrRow.sub {W W':World} {v:Value} {ns:List Lx.Bytes} (h:StrRow W v ns) (hb:Sub W W'):StrRow W' v ns:=by
 obtain⟨A,c,rfl,hi⟩:=h
 refine⟨A,c,rfl,fun i hl=>?_⟩
 obtain⟨g,off,hA,hc⟩:=hi i hl
 exact⟨g,off,hA,hb _ _ _ hc⟩
theorem BoolRow.sub {W W':World} {v:Value} {es:List Bool} (h:BoolRow W v es) (hb:Sub W W'):BoolRow W' v es:=by
 obtain⟨A,c,rfl,hi⟩:=h
 refine⟨A,c,rfl,fun i hl=>?_⟩
 obtain⟨g,off,hA,hc⟩:=hi i hl
 exact⟨g,off,hA,hb _ _ _ hc⟩
mutual
theorem IsTy.sub {W W':World} (hb:Sub W W'):∀(t:Sx.Ty) (v:Value),IsTy W v t→IsTy W' v t
 | .mk k nm ns es ps,v,h=>by
  rw[IsTy]at h ⊢
  obtain⟨vn,ve,A,c,hv,h1,h2,h4,h3⟩:=h
  exact⟨vn,ve,A,c,hv,h1.sub hb,h2.sub hb,h4,IsTys.sub hb ps A 0 h3⟩
theorem IsTys.sub {W W':World} (hb:Sub W W'):∀(l:List Sx.Ty) (A:Option Addr) (i:Nat),IsTys W A i l→IsTys W' A i l
 | [],A,i,h=>by rw[IsTys];trivial
 | t::l,A,i,h=>by
  rw[IsTys]at h ⊢
  obtain⟨⟨g,off,v0,v1,v2,v3,v4,hA,h0,h1,h2,h3,h4,ht⟩,hl⟩:=h
  exact⟨⟨g,off,v0,v1,v2,v3,v4,hA,hb _ _ _ h0,hb _ _ _ h1,hb _ _ _ h2,hb _ _ _ h3,hb _ _ _ h4,IsTy.sub hb t _ ht⟩,IsTys.sub hb l A (i+1) hl⟩
end
theorem TyRow.sub {W W':World} {v:Value} {l:List Sx.Ty} (h:TyRow W v l) (hb:Sub W W'):TyRow W' v l:=by
 obtain⟨A,c,rfl,hc,hl⟩:=h
 exact⟨A,c,rfl,hc,IsTys.sub hb l A 0 hl⟩
mutual
theorem IsEx.sub {W W':World} (hb:Sub W W'):∀(t:Sx.Ex) (v:Value),IsEx W v t→IsEx W' v t
 | .mk pos k n s t ns ps,v,h=>by
  rw[IsEx]at h ⊢
  obtain⟨vt,vn,A0,c0,hv,h0,h1,a0,b0,e0,e1⟩:=h
  exact⟨vt,vn,A0,c0,hv,h0.sub hb,h1.sub hb,a0,IsExs.sub hb ps A0 0 b0,e0,e1⟩
theorem IsExs.sub {W W':World} (hb:Sub W W'):∀(l:List Sx.Ex) (A:Option Addr) (i:Nat),IsExs W A i l→IsExs W' A i l
 | [],A,i,h=>by rw[IsExs];trivial
 | t::l,A,i,h=>by
  rw[IsExs]at h ⊢
  obtain⟨⟨g,off,v0,v1,v2,v3,v4,v5,v6,hA,k0,k1,k2,k3,k4,k5,k6,ht⟩,hl⟩:=h
  exact⟨⟨g,off,v0,v1,v2,v3,v4,v5,v6,hA,hb _ _ _ k0,hb _ _ _ k1,hb _ _ _ k2,hb _ _ _ k3,hb _ _ _ k4,hb _ _ _ k5,hb _ _ _ k6,IsEx.sub hb t _ ht⟩,IsExs.sub hb l A (i+1) hl⟩
end
theorem ExRow.sub {W W':World} {v:Value} {l:List Sx.Ex} (h:ExRow W v l) (hb:Sub W W'):ExRow W' v l:=by
 obtain⟨A,c,rfl,hc,hl⟩:=h
 exact⟨A,c,rfl,hc,IsExs.sub hb l A 0 hl⟩
mutual
theorem IsSt.sub {W W':World} (hb:Sub W W'):∀(t:Sx.St) (v:Value),IsSt W v t→IsSt W' v t
 | .mk pos k nm t x b e,v,h=>by
  rw[IsSt]at h ⊢
  obtain⟨vt,vx,A0,c0,A1,c1,hv,h0,h1,a0,b0,a1,b1⟩:=h
  exact⟨vt,vx,A0,c0,A1,c1,hv,h0.sub hb,h1.sub hb,a0,IsSts.sub hb b A0 0 b0,a1,IsSts.sub hb e A1 0 b1⟩
theorem IsSts.sub {W W':World} (hb:Sub W W'):∀(l:List Sx.St) (A:Option Addr) (i:Nat),IsSts W A i l→IsSts W' A i l
 | [],A,i,h=>by rw[IsSts];trivial
 | t::l,A,i,h=>by
  rw[IsSts]at h ⊢
  obtain⟨⟨g,off,v0,v1,v2,v3,v4,v5,v6,hA,k0,k1,k2,k3,k4,k5,k6,ht⟩,hl⟩:=h
  exact⟨⟨g,off,v0,v1,v2,v3,v4,v5,v6,hA,hb _ _ _ k0,hb _ _ _ k1,hb _ _ _ k2,hb _ _ _ k3,hb _ _ _ k4,hb _ _ _ k5,hb _ _ _ k6,IsSt.sub hb t _ ht⟩,IsSts.sub hb l A (i+1) hl⟩
end
theorem StRow.sub {W W':World} {v:Value} {l:List Sx.St} (h:StRow W v l) (hb:Sub W W'):StRow W' v l:=by
 obtain⟨A,c,rfl,hc,hl⟩:=h
 exact⟨A,c,rfl,hc,IsSts.sub hb l A 0 hl⟩
def only (W:World) (S:Nat→Bool):World:={ W with heap:=W.heap.mapIdx fun i o=>if S i then o else .cells #[] 0 (0,0) }
theorem zdaZ (W:World) (S:Nat→Bool) (g j:Nat):(only W S).cell? ⟨g,j,none⟩=if S g then W.cell? ⟨g,j,none⟩else none:=by
 unfold only World.cell?
 simp only[Array.getElem?_mapIdx]
 cases h:W.heap[g]? with
 | none=>simp
 | some o=>cases hs:S g <;> simp[hs]
theorem zraZ (W:World) (S:Nat→Bool):Sub (only W S) W:=by
 intro g j u h
 rw[zdaZ]at h
 split at h
 ·exact h
 ·cases h
theorem zxZ {W W':World} {S S':Nat→Bool} (h:∀g,g<W.heap.size→S g=true→S' g=true∧W'.heap[g]? =W.heap[g]?):Sub (only W S) (only W' S'):=by
 intro g j u e
 rw[zdaZ]at e ⊢
 split at e
 ·rename_i hs
  obtain⟨h1,h2⟩:=h g (World.block_lt_of_cell? W ⟨g,j,none⟩ e) hs
  rw[if_pos h1]
  exact(World.cell?_of_block h2).trans e
 ·cases e
def since (L:Nat):Nat→Bool:=fun g=>decide (L≤g)
def but (L:Nat) (x g:Option Nat):Nat→Bool:=fun b=>decide (L≤b)&&(some b != x&&some b != g)
theorem zvZ {L g:Nat} : since L g=true↔L≤g:=by simp[since]
theorem zbiZ {L b:Nat} {x g:Option Nat} : but L x g b=true↔L≤b∧some b≠x∧some b≠g:=by simp[but]
/-! ### a row that is filled -/
def Own {α:Type} (R:World→List Value→α→Prop) (e size L:Nat) (X:Option Nat) (w:World) (v:Value) (l:List α):Prop:=
 ∃xss:List (List Value),w.ownsRow L e size v l.length xss.flatten∧xss.length=l.length∧(v.ownBlock=X→X=none)∧
  ∀i (h:i<l.length),∃cs,xss[i]? =some cs∧cs.length=size∧R (only w (but L X v.ownBlock)) cs (l[i]'h)
theorem Own.nil {α:Type} {R:World→List Value→α→Prop} {e size L:Nat} {X:Option Nat} {w:World} : Own R e size L X w (.slice none 0 0) []:=
 ⟨[],World.ownsRow_nil w L e size,rfl,fun h=>h.symm,fun i h=>by simp at h⟩
theorem Own.slice {α:Type} {R:World→List Value→α→Prop} {e size L:Nat} {X:Option Nat} {w:World} {v:Value} {l:List α} (h:Own R e size L X w v l):∃A c,v=.slice A l.length c:=by
 obtain⟨xss,ho,-⟩:=h
 rcases ho.2 with⟨rfl,h0⟩ | ⟨g,cap,cur,rfl,-⟩
 ·exact⟨none,0,by rw[h0]⟩
 ·exact⟨_,cap,rfl⟩
theorem Own.lt {α:Type} {R:World→List Value→α→Prop} {e size L:Nat} {X:Option Nat} {w:World} {v:Value} {l:List α} (h:Own R e size L X w v l):∀b,v.ownBlock=some b→L≤b∧b<w.heap.size:=by
 obtain⟨xss,ho,-⟩:=h
 exact fun b hb=>World.ownsRow.lt ho b hb
theorem Own.keep {α:Type} {R:World→List Value→α→Prop} (hR:∀W W' cs t,Sub W W'→R W cs t→R W' cs t) {e size L:Nat} {X:Option Nat} {w w':World} {v:Value} {l:List α} (h:Own R e size L X w v l)
  (hk:∀g,g<w.heap.size→L≤g→some g≠X→w'.heap[g]? =w.heap[g]?):Own R e size L X w' v l:=by
 obtain⟨xss,ho,hl,hx,hr⟩:=h
 refine⟨xss,⟨ho.1,?_⟩,hl,hx,fun i hi=>?_⟩
 ·rcases ho.2 with hn | ⟨g,cap,cur,rfl,hb,hg,rest⟩
  ·exact .inl hn
  ·refine .inr ⟨g,cap,cur,rfl,hb,(hk g (zaZ hg) hb ?_).trans hg,rest⟩
   intro e
   have:=hx e
   rw[this]at e
   cases e
 ·obtain⟨cs,h1,h2,h3⟩:=hr i hi
  refine⟨cs,h1,h2,hR _ _ _ _ (zxZ fun g hg hs=>⟨hs,?_⟩) h3⟩
  obtain⟨h4,h5,-⟩:=zbiZ.1 hs
  exact hk g hg h4 h5
theorem Own.go {α:Type} {R:World→List Value→α→Prop} (hR:∀W W' cs t,Sub W W'→R W cs t→R W' cs t) {e size L:Nat} {X:Option Nat} {w w':World} {v:Value} {l:List α} (h:Own R e size L X w v l)
  (hb:Below w.heap.size w w'):Own R e size L X w' v l:=h.keep hR fun g hg _ _=>hb.block g hg
theorem zdeZ {P:Program} {w:World} {o:Oper} {a:Act} {K:Act→World→Prop} {Q:Exit→Act→World→Prop} (s x:Operand) (t:TypeId)
  (ho:o.op=.call { callee:=.builtin .append,args:=#[s,x],argTypes:=#[t,t] })
  (base:Nat) (e:TypeId) (i:TypeInfo) (z:Value) (size bytes:Nat) (ht:P.underlying t=some (.slice e)) (hi:P.info? e=some i) (hz:i.zero=some z)
  (hsize:i.size=size) (hby:i.bytes=bytes) (hzs:z.cells.size=size) (hsz:0<size)
  (v:Value) (n:Nat) (xs:List Value) (hs:a.eval s=v) (hown:w.ownsRow base e size v n xs)
  (ad:Addr) (m c:Nat) (news:List Value) (hx:a.eval x=.slice (some ad) m c) (hl:news.length=m * size) (hnews:∀j u,news[j]? =some u→w.cell? (ad.add j)=some u) (h1:∀u∈news,u.oneCell'=true)
  (h63:n+m≤maxLen) (hbytes:(n+m) * bytes≤140737488355328) (hbase:base≤w.heap.size)
  (h:∀v' w',w'.ownsRow base e size v' (n+m) (xs++news)→w.grownBy w' v.ownBlock→(v'.ownBlock=v.ownBlock∨v'.ownBlock=some w.heap.size)→K (a.put o.dst v') w'):o.wp P a w K Q:=by
 obtain⟨v',w',hr,h2,h3,h4,h5⟩:=run_append_own_at (P:=P) w base t o.type e i z size bytes ht hi hz hsize hby hzs hsz v n xs hown ad m c news hl hnews h1 h63 hbytes hbase
 unfold Oper.wp execOp
 simp only[ho,resolve,invoke,builtin,Sem.run_bind,Sem.run_pure,Result.andThen_ok,List.map_toArray,List.map_cons,List.map_nil,hs,hx,hr]
 exact h v' w' h2 h3 h5
theorem ztkZ {α:Type} {R:World→List Value→α→Prop} (hR:∀W W' cs t,Sub W W'→R W cs t→R W' cs t) {P:Program} {w:World} {o:Oper} {a:Act} {K:Act→World→Prop} {Q:Exit→Act→World→Prop} (s x:Operand) (t:TypeId)
  (ho:o.op=.call { callee:=.builtin .append,args:=#[s,x],argTypes:=#[t,t] })
  {e size L:Nat} {X:Option Nat} {v:Value} {n:Nat} {l:List α} (hown:Own R e size L X w v l) (hln:l.length=n) {z:Value} {bytes:Nat} (ht:P.underlying t=some (.slice e)) (hi:(P.info? e).map (fun i=>(i.zero,i.size,i.bytes))=some (some z,size,bytes)) (hzs:z.cells.size=size) (hsz:0<size)
  (hs:a.eval s=v) {k c:Nat} {cs:List Value} {cf:Array Value} (hcf:cf.toList=cs) {u:α} {B:Nat} (hx:a.eval x=.slice (some ⟨k,0,none⟩) 1 c) (hk:w.heap[k]? =some (.cells cf e (0,0))) (hcs:cs.length=size) (h1:∀u∈cs,u.oneCell'=true)
  (hr:R (only w (since B)) cs u) (hLB:L≤B) (hBw:B≤w.heap.size) (hXB:∀b,X=some b→b<B) (hgB:∀b,v.ownBlock=some b→b<B)
  (hn:n+1≤1000000) (hby:bytes≤1000)
  (h:∀A c w',Own R e size L X w' (.slice A (n+1) c) (l++[u])→w.grownBy w' v.ownBlock→K (a.put o.dst (.slice A (n+1) c)) w'):o.wp P a w K Q:=by
 subst hln
 obtain⟨xss,hrow,hl,hxx,hel⟩:=hown
 obtain⟨i,hi1,hi2⟩:=Option.map_eq_some_iff.1 hi
 simp only[Prod.mk.injEq]at hi2
 obtain⟨i1,i2,i3⟩:=hi2
 refine zdeZ s x t ho L e i z size bytes ht hi1 i1 i2 i3 hzs hsz v l.length xss.flatten hs hrow ⟨k,0,none⟩ 1 c cs hx (by rw[hcs,Nat.one_mul]) ?_ h1 (by unfold maxLen;omega) ?_ (by omega) ?_
 ·intro j q hj
  rw[zceZ,Nat.zero_add,zdZ hk,←Array.getElem?_toList,hcf]
  exact hj
 ·have:=Nat.mul_le_mul hn hby
  omega
 ·intro v' w' hown' hg H2
  have H0:∀b,v'.ownBlock=some b→v.ownBlock=some b∨b=w.heap.size:=by
   intro b hb
   rcases H2 with h | h
   ·exact .inl (h.symm.trans hb)
   ·right;rw[h]at hb;injection hb with hb;exact hb.symm
  have H1:∃A c,v'=.slice A (l.length+1) c:=by
   rcases hown'.2 with⟨rfl,h0⟩ | ⟨g,cap,cur,rfl,-⟩
   ·omega
   ·exact⟨_,cap,rfl⟩
  obtain⟨A',c',rfl⟩:=H1
  refine h A' c' w' ⟨xss++[cs],by simpa using hown',by simp[hl],?_,fun j hj=>?_⟩ hg
  ·intro he
   by_cases hne:X=none
   ·exact hne
   ·obtain⟨b,hb⟩:=Option.ne_none_iff_exists'.1 hne
    rw[hb]at he
    rcases H0 b he with h | h
    ·exact hxx (h.trans hb.symm)
    ·have:=hXB b hb
     omega
  ·by_cases hjl:j<l.length
   ·obtain⟨cs',e1,e2,e3⟩:=hel j hjl
    refine⟨cs',by rw[List.getElem?_append_left (by omega)];exact e1,e2,?_⟩
    rw[List.getElem_append_left hjl]
    refine hR _ _ _ _ (zxZ fun g hgw hs=>?_) e3
    obtain⟨p1,p2,p3⟩:=zbiZ.1 hs
    refine⟨zbiZ.2 ⟨p1,p2,fun e=>?_⟩,hg.block g hgw p3⟩
    rcases H0 g e.symm with h | h
    ·exact p3 h.symm
    ·omega
   ·obtain rfl:j=l.length:=by simp at hj;omega
    refine⟨cs,by rw[List.getElem?_append_right (by omega),hl,Nat.sub_self];rfl,hcs,?_⟩
    rw[List.getElem_append_right (Nat.le_refl _)]
    simp only[Nat.sub_self,List.getElem_cons_zero]
    refine hR _ _ _ _ (zxZ fun g hgw hs=>?_) hr
    have hB:=zvZ.1 hs
    refine⟨zbiZ.2 ⟨by omega,fun e=>?_,fun e=>?_⟩,hg.block g hgw fun e=>?_⟩
    ·have:=hXB g e.symm;omega
    ·rcases H0 g e.symm with h | h
     ·have:=hgB g h;omega
     ·omega
    ·have:=hgB g e.symm;omega
theorem zrbZ {α:Type} {R:World→List Value→α→Prop} (hR:∀W W' cs t,Sub W W'→R W cs t→R W' cs t) {P:Program} {w:World} {ops:Array Oper} {o:Oper} {a:Act} {K:Act→World→Prop} {Q:Exit→Act→World→Prop} {Z:Prop} (hgd:o.guard=none) (s x:Operand) (t:TypeId)
  (ho:o.op=.call { callee:=.builtin .append,args:=#[s,x],argTypes:=#[t,t] })
  {e size L:Nat} {X:Option Nat} {v:Value} {n:Nat} {l:List α} (hown:Own R e size L X w v l) (hln:l.length=n) {z:Value} {bytes:Nat} (ht:P.underlying t=some (.slice e)) (hi:(P.info? e).map (fun i=>(i.zero,i.size,i.bytes))=some (some z,size,bytes)) (hzs:z.cells.size=size) (hsz:0<size)
  (hs:a.eval s=v) {k c:Nat} {cs:List Value} {cf:Array Value} (hcf:cf.toList=cs) {u:α} {B:Nat} (hx:a.eval x=.slice (some ⟨k,0,none⟩) 1 c) (hk:w.heap[k]? =some (.cells cf e (0,0))) (hcs:cs.length=size) (h1:∀u∈cs,u.oneCell'=true)
  (hr:R (only w (since B)) cs u) (hLB:L≤B) (hBw:B≤w.heap.size) (hXB:∀b,X=some b→b<B) (hgB:∀b,v.ownBlock=some b→b<B)
  (hn:n+1≤1000000) (hby:bytes≤1000)
  (h:∀A c w',Own R e size L X w' (.slice A (n+1) c) (l++[u])→w.grownBy w' v.ownBlock→K (a.put o.dst (.slice A (n+1) c)) w'):if Region.wanted o (yielded ops a.tmps)=true then o.wp P a w K Q else Z:=by
 rw[if_pos (by simp[Region.wanted,hgd])]
 exact ztkZ hR s x t ho hown hln ht hi hzs hsz hs hcf hx hk hcs h1 hr hLB hBw hXB hgB hn hby h
def RTy (W:World) (cs:List Value) (t:Sx.Ty):Prop:=∃v0 v1 v2 v3 v4,cs=[v0,v1,v2,v3,v4]∧IsTy W (.agg #[v0,v1,v2,v3,v4]) t
theorem RTy.sub (W W':World) (cs:List Value) (t:Sx.Ty) (hb:Sub W W') (h:RTy W cs t):RTy W' cs t:=by
 obtain⟨v0,v1,v2,v3,v4,rfl,h⟩:=h
 exact⟨v0,v1,v2,v3,v4,rfl,IsTy.sub hb t _ h⟩
def REx (W:World) (cs:List Value) (t:Sx.Ex):Prop:=∃v0 v1 v2 v3 v4 v5 v6,cs=[v0,v1,v2,v3,v4,v5,v6]∧IsEx W (.agg #[v0,v1,v2,v3,v4,v5,v6]) t
theorem REx.sub (W W':World) (cs:List Value) (t:Sx.Ex) (hb:Sub W W') (h:REx W cs t):REx W' cs t:=by
 obtain⟨v0,v1,v2,v3,v4,v5,v6,rfl,h⟩:=h
 exact⟨v0,v1,v2,v3,v4,v5,v6,rfl,IsEx.sub hb t _ h⟩
def RSt (W:World) (cs:List Value) (t:Sx.St):Prop:=∃v0 v1 v2 v3 v4 v5 v6,cs=[v0,v1,v2,v3,v4,v5,v6]∧IsSt W (.agg #[v0,v1,v2,v3,v4,v5,v6]) t
theorem RSt.sub (W W':World) (cs:List Value) (t:Sx.St) (hb:Sub W W') (h:RSt W cs t):RSt W' cs t:=by
 obtain⟨v0,v1,v2,v3,v4,v5,v6,rfl,h⟩:=h
 exact⟨v0,v1,v2,v3,v4,v5,v6,rfl,IsSt.sub hb t _ h⟩
theorem zkaZ {size:Nat} : ∀ {xss:List (List Value)} (_:∀x∈xss,x.length=size) {i j:Nat} {cs:List Value} (_:xss[i]? =some cs) (_:j<size),xss.flatten[i * size+j]? =cs[j]?
 | [],_,i,j,cs,h,_=>by simp at h
 | x::xss,hx,0,j,cs,h,hj=>by
  simp at h
  subst h
  have:=hx x List.mem_cons_self
  rw[List.flatten_cons,Nat.zero_mul,Nat.zero_add,List.getElem?_append_left (by omega)]
 | x::xss,hx,i+1,j,cs,h,hj=>by
  have h1:=hx x List.mem_cons_self
  rw[List.flatten_cons,List.getElem?_append_right (by rw[h1,Nat.succ_mul];omega),h1,show(i+1) * size+j-size=i * size+j by rw[Nat.succ_mul];omega]
  exact zkaZ (fun y hy=>hx y (List.mem_cons_of_mem _ hy)) (by simpa using h) hj
theorem Own.at {α:Type} {R:World→List Value→α→Prop} (hR:∀W W' cs t,Sub W W'→R W cs t→R W' cs t) {e size L:Nat} {X:Option Nat} {w:World} {v:Value} {l:List α} (h:Own R e size L X w v l) :
  ∃A c,v=.slice A l.length c∧l.length≤c∧∀m (hm:m<l.length),∃g cs,A=some ⟨g,0,none⟩∧cs.length=size∧(∀j,j<size→(only w (but L X none)).cell? ⟨g,0+m * size+j,none⟩=cs[j]?)∧R (only w (but L X none)) cs (l[m]'hm):=by
 obtain⟨xss,ho,hl,hx,hr⟩:=h
 have H0:∀x∈xss,x.length=size:=by
  intro x hx
  obtain⟨i,hi,rfl⟩:=List.getElem_of_mem hx
  obtain⟨cs,h1,h2,-⟩:=hr i (by omega)
  rw[List.getElem?_eq_getElem hi]at h1
  injection h1 with h1
  rw[h1]
  exact h2
 rcases ho.2 with⟨rfl,h0⟩ | ⟨g,cap,cur,rfl,hb,hg,hnc,hcm,hcs,htake⟩
 ·exact⟨none,0,by rw[h0],by omega,fun m hm=>by omega⟩
 ·refine⟨_,cap,rfl,hnc,fun m hm=>?_⟩
  obtain⟨cs,h1,h2,h3⟩:=hr m hm
  refine⟨g,cs,rfl,h2,fun j hj=>?_,hR _ _ _ _ (zxZ fun b hbw hs=>?_) h3⟩
  ·have hXg:some g≠X:=fun e=>by have:=hx e;rw[this]at e;cases e
   rw[zdaZ,if_pos ((zbiZ (L:=L) (x:=X) (g:=none)).2 ⟨hb,hXg,fun e=>nomatch e⟩),zdZ hg,←zkaZ H0 h1 hj,←htake,Nat.zero_add,List.getElem?_take_of_lt,Array.getElem?_toList]
   have:(m+1) * size≤l.length * size:=Nat.mul_le_mul_right _ hm
   rw[Nat.succ_mul]at this
   omega
  ·obtain⟨p1,p2,p3⟩:=zbiZ.1 hs
   exact⟨(zbiZ (L:=L) (x:=X) (g:=none)).2 ⟨p1,p2,fun e=>nomatch e⟩,rfl⟩
theorem IsTys.mk {W:World} {A:Option Addr} : ∀ {l:List Sx.Ty} {k:Nat},(∀(m:Nat) (h:m<l.length),∃g off v0 v1 v2 v3 v4,A=some ⟨g,off,none⟩∧W.cell? ⟨g,off+(k+m) * 5,none⟩=some v0∧W.cell? ⟨g,off+(k+m) * 5+1,none⟩=some v1∧
  W.cell? ⟨g,off+(k+m) * 5+2,none⟩=some v2∧W.cell? ⟨g,off+(k+m) * 5+3,none⟩=some v3∧W.cell? ⟨g,off+(k+m) * 5+4,none⟩=some v4∧IsTy W (.agg #[v0,v1,v2,v3,v4]) (l[m]'h))→IsTys W A k l
 | [],k,h=>by rw[IsTys];trivial
 | t::l,k,h=>by
  rw[IsTys]
  refine⟨h 0 (Nat.succ_pos _),IsTys.mk fun m hm=>?_⟩
  have:=h (m+1) (by simpa using hm)
  rw[show k+(m+1)=k+1+m by omega]at this
  exact this
theorem Own.tys {e L:Nat} {X:Option Nat} {w:World} {v:Value} {l:List Sx.Ty} (h:Own RTy e 5 L X w v l):TyRow (only w (but L X none)) v l:=by
 obtain⟨A,c,rfl,hc,hm⟩:=h.at RTy.sub
 refine⟨A,c,rfl,hc,IsTys.mk fun m h=>?_⟩
 obtain⟨g,cs,rfl,hl,hj,v0,v1,v2,v3,v4,rfl,hr⟩:=hm m h
 rw[Nat.zero_add m]
 exact⟨g,0,v0,v1,v2,v3,v4,rfl,hj 0 (by decide),hj 1 (by decide),hj 2 (by decide),hj 3 (by decide),hj 4 (by decide),hr⟩
theorem IsExs.mk {W:World} {A:Option Addr} : ∀ {l:List Sx.Ex} {k:Nat},(∀(m:Nat) (h:m<l.length),∃g off v0 v1 v2 v3 v4 v5 v6,A=some ⟨g,off,none⟩∧W.cell? ⟨g,off+(k+m) * 7,none⟩=some v0∧W.cell? ⟨g,off+(k+m) * 7+1,none⟩=some v1∧
  W.cell? ⟨g,off+(k+m) * 7+2,none⟩=some v2∧W.cell? ⟨g,off+(k+m) * 7+3,none⟩=some v3∧W.cell? ⟨g,off+(k+m) * 7+4,none⟩=some v4∧W.cell? ⟨g,off+(k+m) * 7+5,none⟩=some v5∧W.cell? ⟨g,off+(k+m) * 7+6,none⟩=some v6∧
  IsEx W (.agg #[v0,v1,v2,v3,v4,v5,v6]) (l[m]'h))→IsExs W A k l
 | [],k,h=>by rw[IsExs];trivial
 | t::l,k,h=>by
  rw[IsExs]
  refine⟨h 0 (Nat.succ_pos _),IsExs.mk fun m hm=>?_⟩
  have:=h (m+1) (by simpa using hm)
  rw[show k+(m+1)=k+1+m by omega]at this
  exact this
theorem Own.exs {e L:Nat} {X:Option Nat} {w:World} {v:Value} {l:List Sx.Ex} (h:Own REx e 7 L X w v l):ExRow (only w (but L X none)) v l:=by
 obtain⟨A,c,rfl,hc,hm⟩:=h.at REx.sub
 refine⟨A,c,rfl,hc,IsExs.mk fun m h=>?_⟩
 obtain⟨g,cs,rfl,hl,hj,v0,v1,v2,v3,v4,v5,v6,rfl,hr⟩:=hm m h
 rw[Nat.zero_add m]
 exact⟨g,0,v0,v1,v2,v3,v4,v5,v6,rfl,hj 0 (by decide),hj 1 (by decide),hj 2 (by decide),hj 3 (by decide),hj 4 (by decide),hj 5 (by decide),hj 6 (by decide),hr⟩
theorem IsSts.mk {W:World} {A:Option Addr} : ∀ {l:List Sx.St} {k:Nat},(∀(m:Nat) (h:m<l.length),∃g off v0 v1 v2 v3 v4 v5 v6,A=some ⟨g,off,none⟩∧W.cell? ⟨g,off+(k+m) * 7,none⟩=some v0∧W.cell? ⟨g,off+(k+m) * 7+1,none⟩=some v1∧
  W.cell? ⟨g,off+(k+m) * 7+2,none⟩=some v2∧W.cell? ⟨g,off+(k+m) * 7+3,none⟩=some v3∧W.cell? ⟨g,off+(k+m) * 7+4,none⟩=some v4∧W.cell? ⟨g,off+(k+m) * 7+5,none⟩=some v5∧W.cell? ⟨g,off+(k+m) * 7+6,none⟩=some v6∧
  IsSt W (.agg #[v0,v1,v2,v3,v4,v5,v6]) (l[m]'h))→IsSts W A k l
 | [],k,h=>by rw[IsSts];trivial
 | t::l,k,h=>by
  rw[IsSts]
  refine⟨h 0 (Nat.succ_pos _),IsSts.mk fun m hm=>?_⟩
  have:=h (m+1) (by simpa using hm)
  rw[show k+(m+1)=k+1+m by omega]at this
  exact this
/-! ### append(nil, row...) -/
theorem zfhZ {P:Program} (w:World) (t ty e:TypeId) (i:TypeInfo) (ht:P.underlying t=some (.slice e)) (hi:P.info? e=some i) (c:Nat) :
  (Builtin.append_ #[t,t] ty #[.slice none 0 0,.slice none 0 c]).run P w=.ok (.slice none 0 0) w:=by
 simp[Builtin.append_,run_underlying ht,sizeOf,typeInfo,hi,Builtin.lenOf,Builtin.firstCells]
theorem zexZ {P:Program} {w:World} {o:Oper} {a:Act} {K:Act→World→Prop} {Q:Exit→Act→World→Prop} (s x:Operand) (t:TypeId)
  (ho:o.op=.call { callee:=.builtin .append,args:=#[s,x],argTypes:=#[t,t] })
  {e bytes:Nat} {z:Value} (ht:P.underlying t=some (.slice e)) (hi:(P.info? e).map (fun i=>(i.zero,i.size,i.bytes))=some (some z,1,bytes)) (hzs:z.cells.size=1)
  (hs:a.eval s=.slice none 0 0) {A:Option Addr} {n c:Nat} {news:List Value} (hl:news.length=n) (hx:a.eval x=.slice A n c)
  (hA:∀j u,news[j]? =some u→∃g off,A=some ⟨g,off,none⟩∧w.cell? ⟨g,off+j,none⟩=some u) (h1:∀u∈news,u.oneCell'=true)
  (hn:n≤1000000) (hby:bytes≤1000)
  (h:∀A c w',w'.ownsRow w.heap.size e 1 (.slice A n c) n news→Below w.heap.size w w'→K (a.put o.dst (.slice A n c)) w'):o.wp P a w K Q:=by
 subst hl
 obtain⟨i,hi1,hi2⟩:=Option.map_eq_some_iff.1 hi
 simp only[Prod.mk.injEq]at hi2
 obtain⟨i1,i2,i3⟩:=hi2
 cases A with
 | none=>
  have H2:news=[]:=by
   cases news with
   | nil=>rfl
   | cons u l=>obtain⟨g,off,h,-⟩:=hA 0 u rfl;cases h
  subst H2
  have H1:=zfhZ (P:=P) w t o.type e i ht hi1 c
  unfold Oper.wp execOp
  simp only[List.length_nil]at hx
  simp only[ho,resolve,invoke,builtin,Sem.run_bind,Sem.run_pure,Result.andThen_ok,List.map_toArray,List.map_cons,List.map_nil,hs,hx,H1]
  exact h _ _ _ (World.ownsRow_nil w _ e 1) (Below.refl _ _)
 | some ad=>
  have H0:∀j u,news[j]? =some u→w.cell? (ad.add j)=some u:=by
   intro j u hj
   obtain⟨g,off,hg,hc⟩:=hA j u hj
   injection hg with hg
   subst hg
   rw[zceZ]
   exact hc
  refine zdeZ s x t ho w.heap.size e i z 1 bytes ht hi1 i1 i2 i3 hzs Nat.one_pos _ 0 [] hs (World.ownsRow_nil w _ e 1) ad news.length c news hx (by omega) H0 h1 (by unfold maxLen;omega) ?_ (Nat.le_refl _) ?_
  ·have:=Nat.mul_le_mul hn hby
   rw[Nat.zero_add]
   omega
  ·intro v' w' hown hg _
   rw[Nat.zero_add]at hown
   have H3:∃A c,v'=.slice A news.length c:=by
    rcases hown.2 with⟨rfl,h0⟩ | ⟨g,cap,cur,rfl,-⟩
    ·exact⟨none,0,by rw[h0]⟩
    ·exact⟨_,cap,rfl⟩
   obtain⟨A',c',rfl⟩:=H3
   exact h A' c' w' (by simpa using hown) ⟨hg.os,hg.tape,hg.output,hg.size,fun k hk=>hg.block k hk (by simp[Value.ownBlock])⟩
theorem zkbZ {w:World} {L e:Nat} {v:Value} {ns:List Lx.Bytes} (h:w.ownsRow L e 1 v ns.length (strsV ns)):StrRow (only w (since L)) v ns:=by
 rcases h.2 with⟨rfl,h0⟩ | ⟨g,cap,cur,rfl,hb,hg,_,_,_,ht⟩
 ·exact⟨none,0,by rw[h0],fun i hi=>by omega⟩
 ·refine⟨_,cap,rfl,fun i hi=>⟨g,0,rfl,?_⟩⟩
  rw[zdaZ,if_pos (zvZ.2 hb),zdZ hg,Nat.zero_add,←Array.getElem?_toList,←List.getElem?_take_of_lt (l:=cur.toList) (j:=ns.length * 1) (by omega),ht]
  simp[strsV,hi]
theorem zjaZ {w:World} {L e:Nat} {v:Value} {ns:List Bool} (h:w.ownsRow L e 1 v ns.length (ns.map Value.bool)):BoolRow (only w (since L)) v ns:=by
 rcases h.2 with⟨rfl,h0⟩ | ⟨g,cap,cur,rfl,hb,hg,_,_,_,ht⟩
 ·exact⟨none,0,by rw[h0],fun i hi=>by omega⟩
 ·refine⟨_,cap,rfl,fun i hi=>⟨g,0,rfl,?_⟩⟩
  rw[zdaZ,if_pos (zvZ.2 hb),zdZ hg,Nat.zero_add,←Array.getElem?_toList,←List.getElem?_take_of_lt (l:=cur.toList) (j:=ns.length * 1) (by omega),ht]
  simp[hi]
theorem zrcZ:(Tryz.prog.info? 4).map (fun i=>(i.zero,i.size,i.bytes))=some (some (.bool false),1,1):=by kernel_rfl
theorem zocZ:(Tryz.prog.info? 26).map (fun i=>(i.zero,i.size,i.bytes))=some (some (.agg #[.int .i64 0,.string ⟨#[]⟩,.slice none 0 0,.slice none 0 0,.slice none 0 0]),5,96):=by kernel_rfl
theorem zfiZ (ns:List Lx.Bytes):∀u∈strsV ns,u.oneCell'=true:=by
 intro u hu
 unfold strsV at hu
 obtain⟨s,-,rfl⟩:=List.mem_map.1 hu
 rfl
theorem StrRow.cells {W:World} {A:Option Addr} {k c:Nat} {ns:List Lx.Bytes} (h:StrRow W (.slice A k c) ns):k=ns.length∧∀j u,(strsV ns)[j]? =some u→∃g off,A=some ⟨g,off,none⟩∧W.cell? ⟨g,off+j,none⟩=some u:=by
 obtain⟨A',c',hv,hl⟩:=h
 injection hv with h1 h2 h3
 subst h1
 refine⟨h2,fun j u hj=>?_⟩
 unfold strsV at hj
 obtain⟨s,hs,rfl⟩:=List.getElem?_map .. ▸hj |> Option.map_eq_some_iff.1
 obtain⟨hlt,rfl⟩:=List.getElem?_eq_some_iff.1 hs
 exact hl j hlt
theorem BoolRow.cells {W:World} {A:Option Addr} {k c:Nat} {es:List Bool} (h:BoolRow W (.slice A k c) es):k=es.length∧∀j u,(es.map Value.bool)[j]? =some u→∃g off,A=some ⟨g,off,none⟩∧W.cell? ⟨g,off+j,none⟩=some u:=by
 obtain⟨A',c',hv,hl⟩:=h
 injection hv with h1 h2 h3
 subst h1
 refine⟨h2,fun j u hj=>?_⟩
 obtain⟨s,hs,rfl⟩:=List.getElem?_map .. ▸hj |> Option.map_eq_some_iff.1
 obtain⟨hlt,rfl⟩:=List.getElem?_eq_some_iff.1 hs
 exact hl j hlt
theorem zhxZ {w:World} {o:Oper} {a:Act} {K:Act→World→Prop} {Q:Exit→Act→World→Prop} (s x:Operand)
  (ho:o.op=.call { callee:=.builtin .append,args:=#[s,x],argTypes:=#[22, 22] })
  (hs:a.eval s=.slice none 0 0) {A:Option Addr} {n c:Nat} {ns:List Lx.Bytes} (hx:a.eval x=.slice A n c) (hr:StrRow w (.slice A n c) ns) (hn:n≤1000000)
  (h:∀A c w',StrRow (only w' (since w.heap.size)) (.slice A n c) ns→Below w.heap.size w w'→K (a.put o.dst (.slice A n c)) w'):o.wp Tryz.prog a w K Q:=by
 obtain⟨hk,hc⟩:=hr.cells
 refine zexZ s x 22 ho Tryz.underlying22 zfxZ rfl hs (news:=strsV ns) (by unfold strsV;rw[List.length_map,hk]) hx hc (zfiZ ns) hn (by omega) ?_
 intro A' c' w' hown hb
 refine h A' c' w' ?_ hb
 rw[hk]at hown ⊢
 exact zkbZ hown
theorem zhiZ {w:World} {o:Oper} {a:Act} {K:Act→World→Prop} {Q:Exit→Act→World→Prop} (s x:Operand)
  (ho:o.op=.call { callee:=.builtin .append,args:=#[s,x],argTypes:=#[23, 23] })
  (hs:a.eval s=.slice none 0 0) {A:Option Addr} {n c:Nat} {ns:List Bool} (hx:a.eval x=.slice A n c) (hr:BoolRow w (.slice A n c) ns) (hn:n≤1000000)
  (h:∀A c w',BoolRow (only w' (since w.heap.size)) (.slice A n c) ns→Below w.heap.size w w'→K (a.put o.dst (.slice A n c)) w'):o.wp Tryz.prog a w K Q:=by
 obtain⟨hk,hc⟩:=hr.cells
 refine zexZ s x 23 ho Tryz.underlying23 zrcZ rfl hs (news:=ns.map Value.bool) (by rw[List.length_map,hk]) hx hc (fun u hu=>by obtain⟨b,-,rfl⟩:=List.mem_map.1 hu;rfl) hn (by omega) ?_
 intro A' c' w' hown hb
 refine h A' c' w' ?_ hb
 rw[hk]at hown ⊢
 exact zjaZ hown
theorem zdbZ {w:World} {ops:Array Oper} {rest:List Oper} {o:Oper} {a:Act} {Q:Exit→Act→World→Prop} (hgd:o.guard=none) (s x:Operand)
  (ho:o.op=.call { callee:=.builtin .append,args:=#[s,x],argTypes:=#[22, 22] })
  (hs:a.eval s=.slice none 0 0) {A:Option Addr} {n c:Nat} {ns:List Lx.Bytes} (hx:a.eval x=.slice A n c) (hr:StrRow w (.slice A n c) ns) (hn:n≤1000000)
  (h:∀A c w',StrRow (only w' (since w.heap.size)) (.slice A n c) ns→Below w.heap.size w w'→wpList Tryz.prog ops Q rest (a.put o.dst (.slice A n c)) w'):wpList Tryz.prog ops Q (o::rest) a w:=
 wpList_plain hgd fun K hK=>zhxZ s x ho hs hx hr hn fun A c w' h2 h3=>hK _ _ (h A c w' h2 h3)
theorem zezZ {w:World} {ops:Array Oper} {rest:List Oper} {o:Oper} {a:Act} {Q:Exit→Act→World→Prop} (hgd:o.guard=none) (s x:Operand)
  (ho:o.op=.call { callee:=.builtin .append,args:=#[s,x],argTypes:=#[23, 23] })
  (hs:a.eval s=.slice none 0 0) {A:Option Addr} {n c:Nat} {ns:List Bool} (hx:a.eval x=.slice A n c) (hr:BoolRow w (.slice A n c) ns) (hn:n≤1000000)
  (h:∀A c w',BoolRow (only w' (since w.heap.size)) (.slice A n c) ns→Below w.heap.size w w'→wpList Tryz.prog ops Q rest (a.put o.dst (.slice A n c)) w'):wpList Tryz.prog ops Q (o::rest) a w:=
 wpList_plain hgd fun K hK=>zhiZ s x ho hs hx hr hn fun A c w' h2 h3=>hK _ _ (h A c w' h2 h3)
end Go.Proofs.YtdncljdfmdgdaaaGreatDoor
namespace Go.Proofs.YtdncljdfmdgdaaaGreatDoor
open Go.RowKit Go.Shelf Go.WideMaps
def Wri (B b:Nat) (x:Sx.Wr) (w:World):Prop:=
 B≤b∧∃p v,w.heap[b]? =some (.cells #[.pointer p,v,.int .i64 (x.n:Nat)] 104 (0,0))∧(p=none∨p=some ⟨b,0,none⟩)∧OwnB w B v x.b∧(x.b=[]→v=.slice none 0 0)
def KeepW (w w':World):Prop:=∀(k:Nat) (cs:Array Value) (t:TypeId) (fr:Nat×Nat),w.heap[k]? =some (Obj.cells cs t fr)→t≠ 5 →t≠ 104 →w'.heap[k]? =some (Obj.cells cs t fr)
theorem KeepW.refl (w:World):KeepW w w:=fun _ _ _ _ h _ _=>h
theorem KeepW.trans {a b c:World} (h:KeepW a b) (h':KeepW b c):KeepW a c:=fun k cs t fr hk h1 h2=>h' k cs t fr (h k cs t fr hk h1 h2) h1 h2
theorem KeepW.grown {w w':World} {row:Option Nat} (hg:w.grownBy w' row) (hr:∀j,row=some j→∀cs t fr,w.heap[j]? =some (.cells cs t fr)→t= 5):KeepW w w':=by
 intro k cs t fr hk h1 h2
 refine(hg.block k (zaZ hk) (fun e=>?_)).trans hk
 exact h1 (hr k e.symm cs t fr hk)
theorem KeepW.set {w:World} {b:Nat} {cs:Array Value} {fr:Nat×Nat} (h:w.heap[b]? =some (.cells cs 104 fr)) (j:Nat) (u:Value):KeepW w (w.setCell ⟨b,j,none⟩ u):=by
 intro k cs t fr hk h1 h2
 refine(Below.heap_setCell w ⟨b,j,none⟩ u k ?_).trans hk
 rintro rfl
 rw[show w.heap[k]? =_ from h]at hk
 injection hk with hk
 injection hk with _ hk
 exact h2 hk.symm
theorem KeepW.drew (w:World):KeepW w w.drew:=fun _ _ _ _ h _ _=>h
theorem zrdZ:(Tryz.prog.info? 100).map (·.size)=some 2:=by kernel_rfl
theorem zreZ:liesAt Tryz.prog Tryz.prog.depth 104 (3 / Tryz.prog.cellsOf 104) 0 100 1=true:=by kernel_rfl
theorem zrfZ (b:Nat) (w:World) (h0:w.cell? ⟨b,0,none⟩=some (.pointer none)) (hsh:w.shape? b=some (104,3)) (hfz:w.frozen? ⟨b,0,none⟩=false) :
  Calls Tryz.prog 129 #[.pointer (some ⟨b,0,none⟩)] w fun e w'=>e=.returned (.tuple #[])∧w'=w.setCell ⟨b,0,none⟩ (.pointer (some ⟨b,0,none⟩)):=by
 obtain⟨j,hj,hjs⟩:=Option.map_eq_some_iff.1 zrdZ
 go_enter Tryz.func129, Tryz.ntmps129
 go_wp2
 rw[Lib.run_to_unsafe w ⟨b,0,none⟩ Tryz.underlying97 Tryz.underlying187 hj (by rw[hjs];decide) hsh (Nat.zero_lt_succ 2)]
 simp only[Result.andThen]
 rw[Oper.upon_value]
 go_wp2
 rw[run_callFunc_extern Tryz.func148 (by kernel_rfl) (by kernel_rfl) (by kernel_rfl) (e:=Extern.AbiNoEscape.same) (by kernel_rfl)]
 rw[Lib.run_noEscape]
 simp only[Result.andThen]
 rw[Oper.upon_value]
 go_wp2
 rw[Lib.run_from_unsafe w ⟨b,0,none⟩ Tryz.underlying187 Tryz.underlying97 hj hsh zreZ]
 simp only[Result.andThen]
 rw[Oper.upon_value]
 go_wp2
 go_end0
 exact⟨rfl,rfl⟩
def WriAt (B b:Nat) (v:Value) (x:Sx.Wr) (w:World):Prop:=
 B≤b∧w.heap[b]? =some (.cells #[.pointer (some ⟨b,0,none⟩),v,.int .i64 (x.n:Nat)] 104 (0,0))∧OwnB w B v x.b∧(x.b=[]→v=.slice none 0 0)
theorem WriAt.wri {B b:Nat} {v:Value} {x:Sx.Wr} {w:World} (h:WriAt B b v x w):Wri B b x w:=⟨h.1,_,_,h.2.1,.inr rfl,h.2.2⟩
theorem zhyZ {w:World} {B b:Nat} {v:Value} {l:List UInt8} {cs:Array Value} {fr:Nat×Nat} (ho:OwnB w B v l) (hb:w.heap[b]? =some (.cells cs 104 fr)):some b≠v.ownBlock:=by
 intro e
 obtain⟨_,c,h2⟩:=zcdZ ho b e.symm
 rw[hb]at h2
 injection h2 with h2
 injection h2 with _ h2
 exact absurd h2 (by decide)
theorem zcvZ {w:World} {B b j:Nat} {v:Value} {l:List UInt8} {cs:Array Value} {fr:Nat×Nat} (ho:OwnB w B v l) (hb:w.heap[b]? =some (.cells cs 104 fr)) (u:Value):OwnB (w.setCell ⟨b,j,none⟩ u) B v l:=
 World.ownsRow.kept ho (zjZ w b j u) (.inr (fun e=>zhyZ ho hb e.symm))
theorem zkcZ (B b:Nat) (x:Sx.Wr) (w:World) (h:Wri B b x w) :
  Calls Tryz.prog 129 #[.pointer (some ⟨b,0,none⟩)] w fun e w'=>e=.returned (.tuple #[])∧(∃v,WriAt B b v x w')∧Below B w w'∧KeepW w w':=by
 obtain⟨hB,p,v,hb,hp,ho,hx⟩:=h
 rcases hp with rfl | rfl
 ·refine(zrfZ b w (zdZ hb 0) (by simp[World.shape?,hb]) (ztZ hb 0)).mono ?_
  rintro e w' ⟨rfl,rfl⟩
  exact⟨rfl,⟨v,hB,by simp[World.setCell,Array.getElem?_modify,hb],zcvZ ho hb _,hx⟩,(Below.refl B w).setCell (p:=⟨b,0,none⟩) hB _,KeepW.set hb 0 _⟩
 ·refine(zmbZ b w (zdZ hb 0)).mono ?_
  rintro e w' ⟨rfl,rfl⟩
  exact⟨rfl,⟨v,hB,hb,ho,hx⟩,Below.refl B _,KeepW.refl _⟩
theorem zodZ (B b:Nat) (x:Sx.Wr) (w:World) (h:Wri B b x w) :
  Calls Tryz.prog 92 #[.pointer (some ⟨b,0,none⟩)] w fun e w'=>e=.returned (.int .i64 (x.b.length:Nat))∧w'=w:=by
 obtain⟨hB,p,v,hb,hp,ho,hx⟩:=h
 obtain⟨A,c,rfl⟩:=OwnB.slice ho
 have c1:w.cell? ⟨b,1,none⟩=some (.slice A x.b.length c):=zdZ hb 1
 go_enter Tryz.func92, Tryz.ntmps92
 go_wp2
 go_ret
 exact⟨rfl,rfl⟩
theorem ztlZ (B b:Nat) (x:Sx.Wr) (c:UInt8) (w:World) (h:Wri B b x w) (hlen:x.b.length+1≤140737488351232) (hBw:B≤w.heap.size) :
  Calls Tryz.prog 93 #[.pointer (some ⟨b,0,none⟩),.int .u8 (c.toNat:Int)] w fun e w'=>e=.returned .nilIface∧Wri B b ⟨x.b++[c],x.n⟩ w'∧Below B w w'∧KeepW w w':=by
 go_enter Tryz.func93, Tryz.ntmps93
 go_wp2_with (go_at_call 129;refine(zkcZ B b x _ h).mono ?_)
 rintro e w1 ⟨rfl,⟨v,hB,H0,ho,hx⟩,H4,H7⟩
 have H8:b<w1.heap.size:=zaZ H0
 have c0:w1.cell? ⟨b,0,none⟩=some (.pointer (some ⟨b,0,none⟩)):=zdZ H0 0
 have c1:w1.cell? ⟨b,1,none⟩=some v:=zdZ H0 1
 have Ha:=H4.size
 go_wp2_with (at_builtin;refine zcgZ B rfl _ _ rfl v x.b c rfl rfl ho (by omega) (by omega) ?_)
 intro v2 w2 H3 H5
 have hg:w1.grownBy w2 v.ownBlock:=(World.grownBy_alloc w1 _ _).trans H5
 have H1:w2.heap[b]? =some (.cells #[.pointer (some ⟨b,0,none⟩),v,.int .i64 (x.n:Nat)] 104 (0,0)):=(hg.block b H8 (zhyZ ho H0)).trans H0
 have f1:w2.frozen? ⟨b,1,none⟩=false:=ztZ H1 1
 have c2:w2.cell? ⟨b,1,none⟩=some v:=zdZ H1 1
 have H9:b<w2.heap.size:=zaZ H1
 obtain⟨A2,k2,hv2⟩:=OwnB.slice H3
 rw[show(x.b++[c]).length=x.b.length+1 by simp]at hv2
 subst hv2
 have H6:=zh H3
 have HO:=zh ho
 have H2:=zh H1
 have HG:=zh hg
 clear hg H5 H3 ho H1
 go_wp2
 go_ret
 refine⟨rfl,⟨hB,_,_,by simp[World.setCell,Array.getElem?_modify,H2.o],.inr rfl,zcvZ H6.o H2.o _,fun e=>by simp at e⟩,?_,?_⟩
 ·exact(H4.grown HG.o (by omega) (fun k hk=>OwnB.base HO.o k hk)).setCell (p:=⟨b,1,none⟩) hB _
 ·refine(H7.trans (KeepW.grown HG.o ?_)).trans (KeepW.set H2.o 1 _)
  intro j e cs t fr hj
  obtain⟨_,c,h2⟩:=zcdZ HO.o j e
  rw[h2]at hj
  injection hj with hj
  injection hj with _ hj
  exact hj.symm
theorem zoeZ (B b:Nat) (x:Sx.Wr) (s:Lx.Bytes) (w:World) (h:Wri B b x w) (hs:s≠[]) (hlen:x.b.length+s.length≤140737488351232) (hBw:B≤w.heap.size) :
  Calls Tryz.prog 94 #[.pointer (some ⟨b,0,none⟩),.string ⟨s.toArray⟩] w fun e w'=>(∃u,e=.returned u)∧Wri B b ⟨x.b++s,x.n⟩ w'∧Below B w w'∧KeepW w w':=by
 obtain⟨i0,hi,hz0,hz1,hz2⟩:=info_parts zczZ
 obtain⟨S,hS⟩:∃S:ByteArray,(⟨s.toArray⟩:ByteArray)=S:=⟨_,rfl⟩
 have H7:S.data.toList=s:=by rw[←hS]
 have H0:S.size=s.length:=by rw[←hS];simp[ByteArray.size]
 rw[hS]
 have Hd:=zh H7
 have H8:=zh H0
 have H6:x.b.length+S.size≤140737488351232:=by omega
 clear H7 H0 hS
 go_enter Tryz.func94, Tryz.ntmps94
 go_wp2_with (go_at_call 129;refine(zkcZ B b x _ h).mono ?_)
 rintro e w1 ⟨rfl,⟨v,hB,H2,ho,hx⟩,H5,Hb⟩
 have Hc:b<w1.heap.size:=zaZ H2
 have c0:w1.cell? ⟨b,0,none⟩=some (.pointer (some ⟨b,0,none⟩)):=zdZ H2 0
 have c1:w1.cell? ⟨b,1,none⟩=some v:=zdZ H2 1
 have He:=H5.size
 have hown:=ho
 unfold OwnB at hown
 go_wp2_with (at_builtin;refine Lib.wpList_append_own_string (P:= Tryz.prog) (w:=w1) rfl _ _ 98 9 rfl B 5 i0 Tryz.underlying98 Tryz.underlying9 hi hz0 hz1 hz2 _ _ _ rfl hown S rfl (by unfold maxLen;omega) (by omega) (by omega) ?_)
 intro v2 w2 hown' hg _
 have H1:w2.heap[b]? =some (.cells #[.pointer (some ⟨b,0,none⟩),v,.int .i64 (x.n:Nat)] 104 (0,0)):=(hg.block b Hc (zhyZ ho H2)).trans H2
 have H4:OwnB w2 B v2 (x.b++s):=by
  unfold OwnB
  have e:bytesV (x.b++s)=bytesV x.b++Lib.strCells S:=by simp[bytesV,Lib.strCells,Hd.o]
  rw[e,List.length_append,←H8.o]
  exact hown'
 have f1:w2.frozen? ⟨b,1,none⟩=false:=ztZ H1 1
 have c2:w2.cell? ⟨b,1,none⟩=some v:=zdZ H1 1
 have H9:b<w2.heap.size:=zaZ H1
 obtain⟨A2,k2,hv2⟩:=OwnB.slice H4
 rw[show(x.b++s).length=x.b.length+S.size by rw[List.length_append,H8.o]]at hv2
 subst hv2
 have Ha:=zh H4
 have HO:=zh ho
 have H3:=zh H1
 have HG:=zh hg
 clear hg H4 ho H1 hown hown'
 go_wp2
 refine bodyPost_ret (results_tmp2 rfl _ _ _) rfl ?_
 refine⟨⟨_,rfl⟩,⟨hB,_,_,by simp[World.setCell,Array.getElem?_modify,H3.o],.inr rfl,zcvZ Ha.o H3.o _,fun e=>absurd (List.append_eq_nil_iff.1 e).2 hs⟩,?_,?_⟩
 ·exact(H5.grown HG.o (by omega) (fun k hk=>OwnB.base HO.o k hk)).setCell (p:=⟨b,1,none⟩) hB _
 ·refine(Hb.trans (KeepW.grown HG.o ?_)).trans (KeepW.set H3.o 1 _)
  intro j e cs t fr hj
  obtain⟨_,c,h2⟩:=zcdZ HO.o j e
  rw[h2]at hj
  injection hj with hj
  injection hj with _ hj
  exact hj.symm
end Go.Proofs.YtdncljdfmdgdaaaGreatDoor
