/-
  Expressions and statements in memory.
-/
import Derived.Test.YtdncljdfmdgdaaaGreatDoorM5
import Derived.Maps.AppendAt
import Derived.Test.YtdncljdfmdgdaaaGreatDoorM1
set_option linter.unusedSimpArgs false
set_option linter.unusedVariables false
set_option maxRecDepth 100000
set_option maxHeartbeats 8000000
namespace Go.Proofs.YtdncljdfmdgdaaaGreatDoor
open Go.RowKit
def Sx.Ex.pos:Sx.Ex->Int | .mk p _ _ _ _ _ _=>p
def Sx.Ex.n:Sx.Ex->Int | .mk _ _ n _ _ _ _=>n
def Sx.Ex.s:Sx.Ex->Lx.Bytes | .mk _ _ _ s _ _ _=>s
def Sx.Ex.t:Sx.Ex->List Sx.Ty | .mk _ _ _ _ t _ _=>t
def Sx.Ex.names:Sx.Ex->List Lx.Bytes | .mk _ _ _ _ _ ns _=>ns
def Sx.St.pos:Sx.St->Int | .mk p _ _ _ _ _ _=>p
def Sx.St.name:Sx.St->Lx.Bytes | .mk _ _ n _ _ _ _=>n
def Sx.St.t:Sx.St->List Sx.Ty | .mk _ _ _ t _ _ _=>t
def Sx.St.x:Sx.St->List Sx.Ex | .mk _ _ _ _ x _ _=>x
def Sx.St.body:Sx.St->List Sx.St | .mk _ _ _ _ _ b _=>b
def Sx.St.els:Sx.St->List Sx.St | .mk _ _ _ _ _ _ e=>e
mutual
def IsEx (W:World):Value->Sx.Ex->Prop
 | v,.mk pos k n s t ns ps=>∃vt vn A0 c0,v=.agg #[.int .i64 pos,.int .i64 k,.int .i64 n,.string ⟨s.toArray⟩,vt,vn,.slice A0 ps.length c0]/\TyRow W vt t/\StrRow W vn ns/\ps.length<=c0/\IsExs W A0 0 ps/\-9223372036854775808<=n/\n<=9223372036854775807
def IsExs (W:World) (A:Option Addr):Nat->List Sx.Ex->Prop
 | _,[]=>True
 | i,t::l=>(∃g off v0 v1 v2 v3 v4 v5 v6,A=some ⟨g,off,none⟩/\W.cell? ⟨g,off+i * 7,none⟩=some v0/\W.cell? ⟨g,off+i * 7+1,none⟩=some v1/\W.cell? ⟨g,off+i * 7+2,none⟩=some v2/\W.cell? ⟨g,off+i * 7+3,none⟩=some v3/\W.cell? ⟨g,off+i * 7+4,none⟩=some v4/\W.cell? ⟨g,off+i * 7+5,none⟩=some v5/\W.cell? ⟨g,off+i * 7+6,none⟩=some v6/\IsEx W (.agg #[v0,v1,v2,v3,v4,v5,v6]) t)/\IsExs W A (i+1) l
end
def ExRow (W:World) (v:Value) (l:List Sx.Ex):Prop:=∃A c,v=.slice A l.length c/\l.length<=c/\IsExs W A 0 l
mutual
theorem IsEx.below {W W':World} (hb:Below W.heap.size W W'):∀(t:Sx.Ex) (v:Value),IsEx W v t->IsEx W' v t
 | .mk pos k n s t ns ps,v,h=>by rw[IsEx]at h ⊢;obtain⟨vt,vn,A0,c0,hv,h0,h1,a0,b0,e0,e1⟩:=h;exact⟨vt,vn,A0,c0,hv,h0.below hb,h1.below hb,a0,IsExs.below hb ps A0 0 b0,e0,e1⟩
theorem IsExs.below {W W':World} (hb:Below W.heap.size W W'):∀(l:List Sx.Ex) (A:Option Addr) (i:Nat),IsExs W A i l->IsExs W' A i l
 | [],A,i,h=>by rw[IsExs];trivial
 | t::l,A,i,h=>by rw[IsExs]at h ⊢;obtain⟨⟨g,off,v0,v1,v2,v3,v4,v5,v6,hA,k0,k1,k2,k3,k4,k5,k6,ht⟩,hl⟩:=h;have hc:∀ {j:Nat} {u:Value},W.cell? ⟨g,j,none⟩=some u->W'.cell? ⟨g,j,none⟩=some u:=fun {j u} hj=>(World.cell?_of_block (hb.block g (World.block_lt_of_cell? W ⟨g,j,none⟩ hj))).trans hj;exact⟨⟨g,off,v0,v1,v2,v3,v4,v5,v6,hA,hc k0,hc k1,hc k2,hc k3,hc k4,hc k5,hc k6,IsEx.below hb t _ ht⟩,IsExs.below hb l A (i+1) hl⟩
end
theorem ExRow.below {W W':World} {v:Value} {l:List Sx.Ex} (h:ExRow W v l) (hb:Below W.heap.size W W'):ExRow W' v l:=by
 obtain⟨A,c,rfl,hc,hl⟩:=h;exact⟨A,c,rfl,hc,IsExs.below hb l A 0 hl⟩
theorem IsExs.at {W:World} {A:Option Addr} : ∀ {l:List Sx.Ex} {k:Nat},IsExs W A k l->∀(m:Nat) (h:m<l.length),∃g off v0 v1 v2 v3 v4 v5 v6,A=some ⟨g,off,none⟩/\W.cell? ⟨g,off+(k+m) * 7,none⟩=some v0/\W.cell? ⟨g,off+(k+m) * 7+1,none⟩=some v1/\W.cell? ⟨g,off+(k+m) * 7+2,none⟩=some v2/\W.cell? ⟨g,off+(k+m) * 7+3,none⟩=some v3/\W.cell? ⟨g,off+(k+m) * 7+4,none⟩=some v4/\W.cell? ⟨g,off+(k+m) * 7+5,none⟩=some v5/\W.cell? ⟨g,off+(k+m) * 7+6,none⟩=some v6/\IsEx W (.agg #[v0,v1,v2,v3,v4,v5,v6]) (l[m]'h)
 | t::l,k,h,0,hm=>by rw[IsExs]at h;exact h.1
 | t::l,k,h,m+1,hm=>by rw[IsExs]at h;have:=IsExs.at h.2 m (by simpa using hm);rw[show k+1+m=k+(m+1)by omega]at this;exact this
theorem IsEx.agg {W:World} {v:Value} {t:Sx.Ex} (h:IsEx W v t):∃A0 c0 A1 c1 A2 c2,v=.agg #[.int .i64 t.pos,.int .i64 t.kind,.int .i64 t.n,.string ⟨t.s.toArray⟩,.slice A0 t.t.length c0,.slice A1 t.names.length c1,.slice A2 t.parts.length c2]/\TyRow W (.slice A0 t.t.length c0) t.t/\StrRow W (.slice A1 t.names.length c1) t.names/\ExRow W (.slice A2 t.parts.length c2) t.parts/\-9223372036854775808<=t.n/\t.n<=9223372036854775807:=by
 cases t with
 | mk pos k n s t ns ps=>rw[IsEx]at h;obtain⟨vt,vn,A,c,rfl,⟨At,ct,rfl,ht1,ht2⟩,⟨An,cn,rfl,hn⟩,hc,hl,hn0,hn1⟩:=h;exact⟨At,ct,An,cn,A,c,rfl,⟨At,ct,rfl,ht1,ht2⟩,⟨An,cn,rfl,hn⟩,⟨A,c,rfl,hc,hl⟩,hn0,hn1⟩
def CellsEx (W:World) (g j:Nat) (v0 v1 v2 v3 v4 v5 v6:Value):Prop:=g<W.heap.size/\W.cell? ⟨g,j,none⟩=some v0/\W.cell? ⟨g,j+1,none⟩=some v1/\W.cell? ⟨g,j+2,none⟩=some v2/\W.cell? ⟨g,j+3,none⟩=some v3/\W.cell? ⟨g,j+4,none⟩=some v4/\W.cell? ⟨g,j+5,none⟩=some v5/\W.cell? ⟨g,j+6,none⟩=some v6
theorem ExRow.spot {W0:World} {Ap:Option Addr} {k cp:Nat} {l:List Sx.Ex} (h:ExRow W0 (.slice Ap k cp) l) (m:Nat) (hm:m<l.length) :
  ∃g off A0 c0 A1 c1 A2 c2,Ap=some ⟨g,off,none⟩/\IsEx W0 (.agg #[.int .i64 (l[m]'hm).pos,.int .i64 (l[m]'hm).kind,.int .i64 (l[m]'hm).n,.string ⟨(l[m]'hm).s.toArray⟩,.slice A0 (l[m]'hm).t.length c0,.slice A1 (l[m]'hm).names.length c1,.slice A2 (l[m]'hm).parts.length c2]) (l[m]'hm)/\∀W,Below W0.heap.size W0 W->CellsEx W g (off+m * 7) (.int .i64 (l[m]'hm).pos) (.int .i64 (l[m]'hm).kind) (.int .i64 (l[m]'hm).n) (.string ⟨(l[m]'hm).s.toArray⟩) (.slice A0 (l[m]'hm).t.length c0) (.slice A1 (l[m]'hm).names.length c1) (.slice A2 (l[m]'hm).parts.length c2):=by
 obtain⟨A,c,hv,-,hl⟩:=h;injection hv with h1 _ _;subst h1;obtain⟨g,off,v0,v1,v2,v3,v4,v5,v6,rfl,k0,k1,k2,k3,k4,k5,k6,ht⟩:=IsExs.at hl m hm;obtain⟨A0,c0,A1,c1,A2,c2,hagg,-⟩:=ht.agg;injection hagg with hagg;simp only[ykbZ,ygbZ,ymbZ]at hagg;obtain⟨rfl,rfl,rfl,rfl,rfl,rfl,rfl⟩:=hagg;rw[yGZ]at k0 k1 k2 k3 k4 k5 k6;have hg:=World.block_lt_of_cell? W0 ⟨g,_,none⟩ k0;refine⟨g,off,A0,c0,A1,c1,A2,c2,rfl,ht,fun W hb=>?_⟩;have up:∀ {j:Nat} {u:Value},W0.cell? ⟨g,j,none⟩=some u->W.cell? ⟨g,j,none⟩=some u:=fun {j u} hj=>(World.cell?_of_block (hb.block g hg)).trans hj;exact⟨yJZ hg hb.size,up k0,up k1,up k2,up k3,up k4,up k5,up k6⟩
mutual
def IsSt (W:World):Value->Sx.St->Prop
 | v,.mk pos k nm t x b e=>∃vt vx A0 c0 A1 c1,v=.agg #[.int .i64 pos,.int .i64 k,.string ⟨nm.toArray⟩,vt,vx,.slice A0 b.length c0,.slice A1 e.length c1]/\TyRow W vt t/\ExRow W vx x/\b.length<=c0/\IsSts W A0 0 b/\e.length<=c1/\IsSts W A1 0 e
def IsSts (W:World) (A:Option Addr):Nat->List Sx.St->Prop
 | _,[]=>True
 | i,t::l=>(∃g off v0 v1 v2 v3 v4 v5 v6,A=some ⟨g,off,none⟩/\W.cell? ⟨g,off+i * 7,none⟩=some v0/\W.cell? ⟨g,off+i * 7+1,none⟩=some v1/\W.cell? ⟨g,off+i * 7+2,none⟩=some v2/\W.cell? ⟨g,off+i * 7+3,none⟩=some v3/\W.cell? ⟨g,off+i * 7+4,none⟩=some v4/\W.cell? ⟨g,off+i * 7+5,none⟩=some v5/\W.cell? ⟨g,off+i * 7+6,none⟩=some v6/\IsSt W (.agg #[v0,v1,v2,v3,v4,v5,v6]) t)/\IsSts W A (i+1) l
end
def StRow (W:World) (v:Value) (l:List Sx.St):Prop:=∃A c,v=.slice A l.length c/\l.length<=c/\IsSts W A 0 l
mutual
theorem IsSt.below {W W':World} (hb:Below W.heap.size W W'):∀(t:Sx.St) (v:Value),IsSt W v t->IsSt W' v t
 | .mk pos k nm t x b e,v,h=>by rw[IsSt]at h ⊢;obtain⟨vt,vx,A0,c0,A1,c1,hv,h0,h1,a0,b0,a1,b1⟩:=h;exact⟨vt,vx,A0,c0,A1,c1,hv,h0.below hb,h1.below hb,a0,IsSts.below hb b A0 0 b0,a1,IsSts.below hb e A1 0 b1⟩
theorem IsSts.below {W W':World} (hb:Below W.heap.size W W'):∀(l:List Sx.St) (A:Option Addr) (i:Nat),IsSts W A i l->IsSts W' A i l
 | [],A,i,h=>by rw[IsSts];trivial
 | t::l,A,i,h=>by rw[IsSts]at h ⊢;obtain⟨⟨g,off,v0,v1,v2,v3,v4,v5,v6,hA,k0,k1,k2,k3,k4,k5,k6,ht⟩,hl⟩:=h;have hc:∀ {j:Nat} {u:Value},W.cell? ⟨g,j,none⟩=some u->W'.cell? ⟨g,j,none⟩=some u:=fun {j u} hj=>(World.cell?_of_block (hb.block g (World.block_lt_of_cell? W ⟨g,j,none⟩ hj))).trans hj;exact⟨⟨g,off,v0,v1,v2,v3,v4,v5,v6,hA,hc k0,hc k1,hc k2,hc k3,hc k4,hc k5,hc k6,IsSt.below hb t _ ht⟩,IsSts.below hb l A (i+1) hl⟩
end
theorem StRow.below {W W':World} {v:Value} {l:List Sx.St} (h:StRow W v l) (hb:Below W.heap.size W W'):StRow W' v l:=by
 obtain⟨A,c,rfl,hc,hl⟩:=h;exact⟨A,c,rfl,hc,IsSts.below hb l A 0 hl⟩
theorem IsSts.at {W:World} {A:Option Addr} : ∀ {l:List Sx.St} {k:Nat},IsSts W A k l->∀(m:Nat) (h:m<l.length),∃g off v0 v1 v2 v3 v4 v5 v6,A=some ⟨g,off,none⟩/\W.cell? ⟨g,off+(k+m) * 7,none⟩=some v0/\W.cell? ⟨g,off+(k+m) * 7+1,none⟩=some v1/\W.cell? ⟨g,off+(k+m) * 7+2,none⟩=some v2/\W.cell? ⟨g,off+(k+m) * 7+3,none⟩=some v3/\W.cell? ⟨g,off+(k+m) * 7+4,none⟩=some v4/\W.cell? ⟨g,off+(k+m) * 7+5,none⟩=some v5/\W.cell? ⟨g,off+(k+m) * 7+6,none⟩=some v6/\IsSt W (.agg #[v0,v1,v2,v3,v4,v5,v6]) (l[m]'h)
 | t::l,k,h,0,hm=>by rw[IsSts]at h;exact h.1
 | t::l,k,h,m+1,hm=>by rw[IsSts]at h;have:=IsSts.at h.2 m (by simpa using hm);rw[show k+1+m=k+(m+1)by omega]at this;exact this
theorem IsSt.agg {W:World} {v:Value} {t:Sx.St} (h:IsSt W v t):∃A0 c0 A1 c1 A2 c2 A3 c3,v=.agg #[.int .i64 t.pos,.int .i64 t.kind,.string ⟨t.name.toArray⟩,.slice A0 t.t.length c0,.slice A1 t.x.length c1,.slice A2 t.body.length c2,.slice A3 t.els.length c3]/\TyRow W (.slice A0 t.t.length c0) t.t/\ExRow W (.slice A1 t.x.length c1) t.x/\StRow W (.slice A2 t.body.length c2) t.body/\StRow W (.slice A3 t.els.length c3) t.els:=by
 cases t with
 | mk pos k nm t x b e=>rw[IsSt]at h;obtain⟨vt,vx,Ab,cb,Ae,ce,rfl,⟨At,ct,rfl,ht1,ht2⟩,⟨Ax,cx,rfl,hx1,hx2⟩,hb1,hb2,he1,he2⟩:=h;exact⟨At,ct,Ax,cx,Ab,cb,Ae,ce,rfl,⟨At,ct,rfl,ht1,ht2⟩,⟨Ax,cx,rfl,hx1,hx2⟩,⟨Ab,cb,rfl,hb1,hb2⟩,⟨Ae,ce,rfl,he1,he2⟩⟩
def CellsSt (W:World) (g j:Nat) (v0 v1 v2 v3 v4 v5 v6:Value):Prop:=g<W.heap.size/\W.cell? ⟨g,j,none⟩=some v0/\W.cell? ⟨g,j+1,none⟩=some v1/\W.cell? ⟨g,j+2,none⟩=some v2/\W.cell? ⟨g,j+3,none⟩=some v3/\W.cell? ⟨g,j+4,none⟩=some v4/\W.cell? ⟨g,j+5,none⟩=some v5/\W.cell? ⟨g,j+6,none⟩=some v6
theorem StRow.spot {W0:World} {Ap:Option Addr} {k cp:Nat} {l:List Sx.St} (h:StRow W0 (.slice Ap k cp) l) (m:Nat) (hm:m<l.length) :
  ∃g off A0 c0 A1 c1 A2 c2 A3 c3,Ap=some ⟨g,off,none⟩/\IsSt W0 (.agg #[.int .i64 (l[m]'hm).pos,.int .i64 (l[m]'hm).kind,.string ⟨(l[m]'hm).name.toArray⟩,.slice A0 (l[m]'hm).t.length c0,.slice A1 (l[m]'hm).x.length c1,.slice A2 (l[m]'hm).body.length c2,.slice A3 (l[m]'hm).els.length c3]) (l[m]'hm)/\∀W,Below W0.heap.size W0 W->CellsSt W g (off+m * 7) (.int .i64 (l[m]'hm).pos) (.int .i64 (l[m]'hm).kind) (.string ⟨(l[m]'hm).name.toArray⟩) (.slice A0 (l[m]'hm).t.length c0) (.slice A1 (l[m]'hm).x.length c1) (.slice A2 (l[m]'hm).body.length c2) (.slice A3 (l[m]'hm).els.length c3):=by
 obtain⟨A,c,hv,-,hl⟩:=h;injection hv with h1 _ _;subst h1;obtain⟨g,off,v0,v1,v2,v3,v4,v5,v6,rfl,k0,k1,k2,k3,k4,k5,k6,ht⟩:=IsSts.at hl m hm;obtain⟨A0,c0,A1,c1,A2,c2,A3,c3,hagg,-⟩:=ht.agg;injection hagg with hagg;simp only[ykbZ,ygbZ,ymbZ]at hagg;obtain⟨rfl,rfl,rfl,rfl,rfl,rfl,rfl⟩:=hagg;rw[yGZ]at k0 k1 k2 k3 k4 k5 k6;have hg:=World.block_lt_of_cell? W0 ⟨g,_,none⟩ k0;refine⟨g,off,A0,c0,A1,c1,A2,c2,A3,c3,rfl,ht,fun W hb=>?_⟩;have up:∀ {j:Nat} {u:Value},W0.cell? ⟨g,j,none⟩=some u->W.cell? ⟨g,j,none⟩=some u:=fun {j u} hj=>(World.cell?_of_block (hb.block g hg)).trans hj;exact⟨yJZ hg hb.size,up k0,up k1,up k2,up k3,up k4,up k5,up k6⟩
end Go.Proofs.YtdncljdfmdgdaaaGreatDoor
namespace Go.Proofs.YtdncljdfmdgdaaaGreatDoor
open Go.RowKit Go.Shelf
def Sub (W W':World):Prop:=∀(g j:Nat) (u:Value),W.cell? ⟨g,j,none⟩=some u->W'.cell? ⟨g,j,none⟩=some u
theorem Sub.trans {a b c:World} (h:Sub a b) (k:Sub b c):Sub a c:=fun g j u e=>k g j u (h g j u e)
theorem Sub.of_below {W W':World} (h:Below W.heap.size W W'):Sub W W':=fun g j u e=>(World.cell?_of_block (h.block g (World.block_lt_of_cell? W ⟨g,j,none⟩ e))).trans e
theorem StrRow.sub {W W':World} {v:Value} {ns:List Lx.Bytes} (h:StrRow W v ns) (hb:Sub W W'):StrRow W' v ns:=by
 obtain⟨A,c,rfl,hi⟩:=h;refine⟨A,c,rfl,fun i hl=>?_⟩;obtain⟨g,off,hA,hc⟩:=hi i hl;exact⟨g,off,hA,hb _ _ _ hc⟩
theorem BoolRow.sub {W W':World} {v:Value} {es:List Bool} (h:BoolRow W v es) (hb:Sub W W'):BoolRow W' v es:=by
 obtain⟨A,c,rfl,hi⟩:=h;refine⟨A,c,rfl,fun i hl=>?_⟩;obtain⟨g,off,hA,hc⟩:=hi i hl;exact⟨g,off,hA,hb _ _ _ hc⟩
mutual
theorem IsTy.sub {W W':World} (hb:Sub W W'):∀(t:Sx.Ty) (v:Value),IsTy W v t->IsTy W' v t
 | .mk k nm ns es ps,v,h=>by rw[IsTy]at h ⊢;obtain⟨vn,ve,A,c,hv,h1,h2,h4,h3⟩:=h;exact⟨vn,ve,A,c,hv,h1.sub hb,h2.sub hb,h4,IsTys.sub hb ps A 0 h3⟩
theorem IsTys.sub {W W':World} (hb:Sub W W'):∀(l:List Sx.Ty) (A:Option Addr) (i:Nat),IsTys W A i l->IsTys W' A i l
 | [],A,i,h=>by rw[IsTys];trivial
 | t::l,A,i,h=>by rw[IsTys]at h ⊢;obtain⟨⟨g,off,v0,v1,v2,v3,v4,hA,h0,h1,h2,h3,h4,ht⟩,hl⟩:=h;exact⟨⟨g,off,v0,v1,v2,v3,v4,hA,hb _ _ _ h0,hb _ _ _ h1,hb _ _ _ h2,hb _ _ _ h3,hb _ _ _ h4,IsTy.sub hb t _ ht⟩,IsTys.sub hb l A (i+1) hl⟩
end
theorem TyRow.sub {W W':World} {v:Value} {l:List Sx.Ty} (h:TyRow W v l) (hb:Sub W W'):TyRow W' v l:=by
 obtain⟨A,c,rfl,hc,hl⟩:=h;exact⟨A,c,rfl,hc,IsTys.sub hb l A 0 hl⟩
mutual
theorem IsEx.sub {W W':World} (hb:Sub W W'):∀(t:Sx.Ex) (v:Value),IsEx W v t->IsEx W' v t
 | .mk pos k n s t ns ps,v,h=>by rw[IsEx]at h ⊢;obtain⟨vt,vn,A0,c0,hv,h0,h1,a0,b0,e0,e1⟩:=h;exact⟨vt,vn,A0,c0,hv,h0.sub hb,h1.sub hb,a0,IsExs.sub hb ps A0 0 b0,e0,e1⟩
theorem IsExs.sub {W W':World} (hb:Sub W W'):∀(l:List Sx.Ex) (A:Option Addr) (i:Nat),IsExs W A i l->IsExs W' A i l
 | [],A,i,h=>by rw[IsExs];trivial
 | t::l,A,i,h=>by rw[IsExs]at h ⊢;obtain⟨⟨g,off,v0,v1,v2,v3,v4,v5,v6,hA,k0,k1,k2,k3,k4,k5,k6,ht⟩,hl⟩:=h;exact⟨⟨g,off,v0,v1,v2,v3,v4,v5,v6,hA,hb _ _ _ k0,hb _ _ _ k1,hb _ _ _ k2,hb _ _ _ k3,hb _ _ _ k4,hb _ _ _ k5,hb _ _ _ k6,IsEx.sub hb t _ ht⟩,IsExs.sub hb l A (i+1) hl⟩
end
theorem ExRow.sub {W W':World} {v:Value} {l:List Sx.Ex} (h:ExRow W v l) (hb:Sub W W'):ExRow W' v l:=by
 obtain⟨A,c,rfl,hc,hl⟩:=h;exact⟨A,c,rfl,hc,IsExs.sub hb l A 0 hl⟩
mutual
theorem IsSt.sub {W W':World} (hb:Sub W W'):∀(t:Sx.St) (v:Value),IsSt W v t->IsSt W' v t
 | .mk pos k nm t x b e,v,h=>by rw[IsSt]at h ⊢;obtain⟨vt,vx,A0,c0,A1,c1,hv,h0,h1,a0,b0,a1,b1⟩:=h;exact⟨vt,vx,A0,c0,A1,c1,hv,h0.sub hb,h1.sub hb,a0,IsSts.sub hb b A0 0 b0,a1,IsSts.sub hb e A1 0 b1⟩
theorem IsSts.sub {W W':World} (hb:Sub W W'):∀(l:List Sx.St) (A:Option Addr) (i:Nat),IsSts W A i l->IsSts W' A i l
 | [],A,i,h=>by rw[IsSts];trivial
 | t::l,A,i,h=>by rw[IsSts]at h ⊢;obtain⟨⟨g,off,v0,v1,v2,v3,v4,v5,v6,hA,k0,k1,k2,k3,k4,k5,k6,ht⟩,hl⟩:=h;exact⟨⟨g,off,v0,v1,v2,v3,v4,v5,v6,hA,hb _ _ _ k0,hb _ _ _ k1,hb _ _ _ k2,hb _ _ _ k3,hb _ _ _ k4,hb _ _ _ k5,hb _ _ _ k6,IsSt.sub hb t _ ht⟩,IsSts.sub hb l A (i+1) hl⟩
end
theorem StRow.sub {W W':World} {v:Value} {l:List Sx.St} (h:StRow W v l) (hb:Sub W W'):StRow W' v l:=by
 obtain⟨A,c,rfl,hc,hl⟩:=h;exact⟨A,c,rfl,hc,IsSts.sub hb l A 0 hl⟩
def only (W:World) (S:Nat->Bool):World:={ W with heap:=W.heap.mapIdx fun i o=>if S i then o else .cells #[] 0 (0,0) }
theorem zdeZ (W:World) (S:Nat->Bool) (g j:Nat):(only W S).cell? ⟨g,j,none⟩=if S g then W.cell? ⟨g,j,none⟩else none:=by
 unfold only World.cell?;simp only[Array.getElem?_mapIdx]
 cases h:W.heap[g]? with
 | none=>simp
 | some o=>cases hs:S g <;> simp[hs]
theorem zsgZ (W:World) (S:Nat->Bool):Sub (only W S) W:=by
 intro g j u h;rw[zdeZ]at h;split at h
 ·exact h
 ·cases h
theorem znZ {W W':World} {S S':Nat->Bool} (h:∀g,g<W.heap.size->S g=true->S' g=true/\W'.heap[g]? =W.heap[g]?):Sub (only W S) (only W' S'):=by
 intro g j u e;rw[zdeZ]at e ⊢;split at e
 ·rename_i hs;obtain⟨h1,h2⟩:=h g (World.block_lt_of_cell? W ⟨g,j,none⟩ e) hs;rw[if_pos h1];exact(World.cell?_of_block h2).trans e
 ·cases e
def since (L:Nat):Nat->Bool:=fun g=>decide (L<=g)
def but (L:Nat) (x g:Option Nat):Nat->Bool:=fun b=>decide (L<=b)&&(some b != x&&some b != g)
theorem zmZ {L g:Nat} : since L g=true↔L<=g:=by simp[since]
theorem zxZ {L b:Nat} {x g:Option Nat} : but L x g b=true↔L<=b/\some b≠x/\some b≠g:=by simp[but]
/-! ### a row that is filled -/
def Own {α:Type} (R:World->List Value->α->Prop) (e size L:Nat) (X:Option Nat) (w:World) (v:Value) (l:List α):Prop:=
 ∃xss:List (List Value),w.ownsRow L e size v l.length xss.flatten/\xss.length=l.length/\(v.ownBlock=X->X=none)/\
  ∀i (h:i<l.length),∃cs,xss[i]? =some cs/\cs.length=size/\R (only w (but L X v.ownBlock)) cs (l[i]'h)
theorem Own.nil {α:Type} {R:World->List Value->α->Prop} {e size L:Nat} {X:Option Nat} {w:World} : Own R e size L X w (.slice none 0 0) []:=
 ⟨[],yOZ w L e size,rfl,fun h=>h.symm,fun i h=>by simp at h⟩
theorem Own.slice {α:Type} {R:World->List Value->α->Prop} {e size L:Nat} {X:Option Nat} {w:World} {v:Value} {l:List α} (h:Own R e size L X w v l):∃A c,v=.slice A l.length c:=by
 obtain⟨xss,ho,-⟩:=h;rcases ho.2 with⟨rfl,h0⟩ | ⟨g,cap,cur,rfl,-⟩
 ·exact⟨none,0,by rw[h0]⟩
 ·exact⟨_,cap,rfl⟩
theorem Own.lt {α:Type} {R:World->List Value->α->Prop} {e size L:Nat} {X:Option Nat} {w:World} {v:Value} {l:List α} (h:Own R e size L X w v l):∀b,v.ownBlock=some b->L<=b/\b<w.heap.size:=by
 obtain⟨xss,ho,-⟩:=h;exact fun b hb=>World.ownsRow.lt ho b hb
theorem Own.keep {α:Type} {R:World->List Value->α->Prop} (hR:∀W W' cs t,Sub W W'->R W cs t->R W' cs t) {e size L:Nat} {X:Option Nat} {w w':World} {v:Value} {l:List α} (h:Own R e size L X w v l)
  (hk:∀g,g<w.heap.size->L<=g->some g≠X->w'.heap[g]? =w.heap[g]?):Own R e size L X w' v l:=by
 obtain⟨xss,ho,hl,hx,hr⟩:=h;refine⟨xss,⟨ho.1,?_⟩,hl,hx,fun i hi=>?_⟩
 ·rcases ho.2 with hn | ⟨g,cap,cur,rfl,hb,hg,rest⟩
  ·exact .inl hn
  ·refine .inr ⟨g,cap,cur,rfl,hb,(hk g (zaZ hg) hb ?_).trans hg,rest⟩;intro e;have:=hx e;rw[this]at e;cases e
 ·obtain⟨cs,h1,h2,h3⟩:=hr i hi;refine⟨cs,h1,h2,hR _ _ _ _ (znZ fun g hg hs=>⟨hs,?_⟩) h3⟩;obtain⟨h4,h5,-⟩:=zxZ.1 hs;exact hk g hg h4 h5
theorem Own.go {α:Type} {R:World->List Value->α->Prop} (hR:∀W W' cs t,Sub W W'->R W cs t->R W' cs t) {e size L:Nat} {X:Option Nat} {w w':World} {v:Value} {l:List α} (h:Own R e size L X w v l)
  (hb:Below w.heap.size w w'):Own R e size L X w' v l:=h.keep hR fun g hg _ _=>hb.block g hg
theorem zdjZ {P:Program} {w:World} {o:Oper} {a:Act} {K:Act->World->Prop} {Q:Exit->Act->World->Prop} (s x:Operand) (t:TypeId)
  (ho:o.op=.call { callee:=.builtin .append,args:=#[s,x],argTypes:=#[t,t] })
  (base:Nat) (e:TypeId) (i:TypeInfo) (z:Value) (size bytes:Nat) (ht:P.underlying t=some (.slice e)) (hi:P.info? e=some i) (hz:i.zero=some z)
  (hsize:i.size=size) (hby:i.bytes=bytes) (hzs:z.cells.size=size) (hsz:0<size)
  (v:Value) (n:Nat) (xs:List Value) (hs:a.eval s=v) (hown:w.ownsRow base e size v n xs)
  (ad:Addr) (m c:Nat) (news:List Value) (hx:a.eval x=.slice (some ad) m c) (hl:news.length=m * size) (hnews:∀j u,news[j]? =some u->w.cell? (ad.add j)=some u) (h1:∀u∈news,u.oneCell'=true)
  (h63:n+m<=maxLen) (hbytes:(n+m) * bytes<=140737488355328) (hbase:base<=w.heap.size)
  (h:∀v' w',w'.ownsRow base e size v' (n+m) (xs++news)->w.grownBy w' v.ownBlock->(v'.ownBlock=v.ownBlock\/v'.ownBlock=some w.heap.size)->K (a.put o.dst v') w'):o.wp P a w K Q:=by
 obtain⟨v',w',hr,h2,h3,h4,h5⟩:=run_append_own_at (P:=P) w base t o.type e i z size bytes ht hi hz hsize hby hzs hsz v n xs hown ad m c news hl hnews h1 h63 hbytes hbase;unfold Oper.wp execOp;simp only[ho,resolve,invoke,builtin,Sem.run_bind,Sem.run_pure,Result.andThen_ok,yIZ,yPZ,yRZ,hs,hx,hr];exact h v' w' h2 h3 h5
theorem zngZ {α:Type} {R:World->List Value->α->Prop} (hR:∀W W' cs t,Sub W W'->R W cs t->R W' cs t) {P:Program} {w:World} {o:Oper} {a:Act} {K:Act->World->Prop} {Q:Exit->Act->World->Prop} (s x:Operand) (t:TypeId)
  (ho:o.op=.call { callee:=.builtin .append,args:=#[s,x],argTypes:=#[t,t] })
  {e size L:Nat} {X:Option Nat} {v:Value} {n:Nat} {l:List α} (hown:Own R e size L X w v l) (hln:l.length=n) {z:Value} {bytes:Nat} (ht:P.underlying t=some (.slice e)) (hi:(P.info? e).map (fun i=>(i.zero,i.size,i.bytes))=some (some z,size,bytes)) (hzs:z.cells.size=size) (hsz:0<size)
  (hs:a.eval s=v) {k c:Nat} {cs:List Value} {cf:Array Value} (hcf:cf.toList=cs) {u:α} {B:Nat} (hx:a.eval x=.slice (some ⟨k,0,none⟩) 1 c) (hk:w.heap[k]? =some (.cells cf e (0,0))) (hcs:cs.length=size) (h1:∀u∈cs,u.oneCell'=true)
  (hr:R (only w (since B)) cs u) (hLB:L<=B) (hBw:B<=w.heap.size) (hXB:∀b,X=some b->b<B) (hgB:∀b,v.ownBlock=some b->b<B)
  (hn:n+1<=1000000) (hby:bytes<=1000)
  (h:∀A c w',Own R e size L X w' (.slice A (n+1) c) (l++[u])->w.grownBy w' v.ownBlock->K (a.put o.dst (.slice A (n+1) c)) w'):o.wp P a w K Q:=by
 subst hln;obtain⟨xss,hrow,hl,hxx,hel⟩:=hown;obtain⟨i,hi1,hi2⟩:=yibZ.1 hi;simp only[Prod.mk.injEq]at hi2;obtain⟨i1,i2,i3⟩:=hi2;refine zdjZ s x t ho L e i z size bytes ht hi1 i1 i2 i3 hzs hsz v l.length xss.flatten hs hrow ⟨k,0,none⟩ 1 c cs hx (by rw[hcs,Nat.one_mul]) ?_ h1 (by unfold maxLen;omega) ?_ (by omega) ?_
 ·intro j q hj;rw[zclZ,yGZ,zdZ hk,<-Array.getElem?_toList,hcf];exact hj
 ·have:=Nat.mul_le_mul hn hby;omega
 ·intro v' w' hown' hg H2;have H0:∀b,v'.ownBlock=some b->v.ownBlock=some b\/b=w.heap.size:=by
   intro b hb;rcases H2 with h | h
   ·exact .inl (h.symm.trans hb)
   ·right;rw[h]at hb;injection hb with hb;exact hb.symm
  have H1:∃A c,v'=.slice A (l.length+1) c:=by
   rcases hown'.2 with⟨rfl,h0⟩ | ⟨g,cap,cur,rfl,-⟩
   ·omega
   ·exact⟨_,cap,rfl⟩
  obtain⟨A',c',rfl⟩:=H1;refine h A' c' w' ⟨xss++[cs],by simpa using hown',by simp[hl],?_,fun j hj=>?_⟩ hg
  ·intro he;by_cases hne:X=none
   ·exact hne
   ·obtain⟨b,hb⟩:=Option.ne_none_iff_exists'.1 hne;rw[hb]at he;rcases H0 b he with h | h
    ·exact hxx (h.trans hb.symm)
    ·have:=hXB b hb;omega
  ·by_cases hjl:j<l.length
   ·obtain⟨cs',e1,e2,e3⟩:=hel j hjl;refine⟨cs',by rw[List.getElem?_append_left (by omega)];exact e1,e2,?_⟩;rw[List.getElem_append_left hjl];refine hR _ _ _ _ (znZ fun g hgw hs=>?_) e3;obtain⟨p1,p2,p3⟩:=zxZ.1 hs;refine⟨zxZ.2 ⟨p1,p2,fun e=>?_⟩,hg.block g hgw p3⟩;rcases H0 g e.symm with h | h
    ·exact p3 h.symm
    ·omega
   ·obtain rfl:j=l.length:=(by simp at hj;omega);refine⟨cs,by rw[List.getElem?_append_right (by omega),hl,Nat.sub_self];rfl,hcs,?_⟩;rw[List.getElem_append_right (ybZ _)];simp only[Nat.sub_self,List.getElem_cons_zero];refine hR _ _ _ _ (znZ fun g hgw hs=>?_) hr;have hB:=zmZ.1 hs;refine⟨zxZ.2 ⟨by omega,fun e=>?_,fun e=>?_⟩,hg.block g hgw fun e=>?_⟩
    ·have:=hXB g e.symm;omega
    ·rcases H0 g e.symm with h | h
     ·have:=hgB g h;omega
     ·omega
    ·have:=hgB g e.symm;omega
theorem zshZ {α:Type} {R:World->List Value->α->Prop} (hR:∀W W' cs t,Sub W W'->R W cs t->R W' cs t) {P:Program} {w:World} {ops:Array Oper} {o:Oper} {a:Act} {K:Act->World->Prop} {Q:Exit->Act->World->Prop} {Z:Prop} (hgd:o.guard=none) (s x:Operand) (t:TypeId)
  (ho:o.op=.call { callee:=.builtin .append,args:=#[s,x],argTypes:=#[t,t] })
  {e size L:Nat} {X:Option Nat} {v:Value} {n:Nat} {l:List α} (hown:Own R e size L X w v l) (hln:l.length=n) {z:Value} {bytes:Nat} (ht:P.underlying t=some (.slice e)) (hi:(P.info? e).map (fun i=>(i.zero,i.size,i.bytes))=some (some z,size,bytes)) (hzs:z.cells.size=size) (hsz:0<size)
  (hs:a.eval s=v) {k c:Nat} {cs:List Value} {cf:Array Value} (hcf:cf.toList=cs) {u:α} {B:Nat} (hx:a.eval x=.slice (some ⟨k,0,none⟩) 1 c) (hk:w.heap[k]? =some (.cells cf e (0,0))) (hcs:cs.length=size) (h1:∀u∈cs,u.oneCell'=true)
  (hr:R (only w (since B)) cs u) (hLB:L<=B) (hBw:B<=w.heap.size) (hXB:∀b,X=some b->b<B) (hgB:∀b,v.ownBlock=some b->b<B)
  (hn:n+1<=1000000) (hby:bytes<=1000)
  (h:∀A c w',Own R e size L X w' (.slice A (n+1) c) (l++[u])->w.grownBy w' v.ownBlock->K (a.put o.dst (.slice A (n+1) c)) w'):if Region.wanted o (yielded ops a.tmps)=true then o.wp P a w K Q else Z:=by
 rw[if_pos (by simp[Region.wanted,hgd])];exact zngZ hR s x t ho hown hln ht hi hzs hsz hs hcf hx hk hcs h1 hr hLB hBw hXB hgB hn hby h
theorem zmoZ {α:Type} {R:World->List Value->α->Prop} (hR:∀W W' cs t,Sub W W'->R W cs t->R W' cs t) {P:Program} {w:World} {ops:Array Oper} {rest:List Oper} {o:Oper} {a:Act} {Q:Exit->Act->World->Prop} (hgd:o.guard=none) (s x:Operand) (t:TypeId)
  (ho:o.op=.call { callee:=.builtin .append,args:=#[s,x],argTypes:=#[t,t] })
  {e size L:Nat} {X:Option Nat} {v:Value} {n:Nat} {l:List α} (hown:Own R e size L X w v l) (hln:l.length=n) {z:Value} {bytes:Nat} (ht:P.underlying t=some (.slice e)) (hi:(P.info? e).map (fun i=>(i.zero,i.size,i.bytes))=some (some z,size,bytes)) (hzs:z.cells.size=size) (hsz:0<size)
  (hs:a.eval s=v) {k c:Nat} {cs:List Value} {cf:Array Value} (hcf:cf.toList=cs) {u:α} {B:Nat} (hx:a.eval x=.slice (some ⟨k,0,none⟩) 1 c) (hk:w.heap[k]? =some (.cells cf e (0,0))) (hcs:cs.length=size) (h1:∀u∈cs,u.oneCell'=true)
  (hr:R (only w (since B)) cs u) (hLB:L<=B) (hBw:B<=w.heap.size) (hXB:∀b,X=some b->b<B) (hgB:∀b,v.ownBlock=some b->b<B)
  (hn:n+1<=1000000) (hby:bytes<=1000)
  (h:∀A c w',Own R e size L X w' (.slice A (n+1) c) (l++[u])->w.grownBy w' v.ownBlock->wpList P ops Q rest (a.put o.dst (.slice A (n+1) c)) w'):wpList P ops Q (o::rest) a w:=
 wpList_plain hgd fun K hK=>zngZ hR s x t ho hown hln ht hi hzs hsz hs hcf hx hk hcs h1 hr hLB hBw hXB hgB hn hby fun A c w' h2 h3=>hK _ _ (h A c w' h2 h3)
def RTy (W:World) (cs:List Value) (t:Sx.Ty):Prop:=∃v0 v1 v2 v3 v4,cs=[v0,v1,v2,v3,v4]/\IsTy W (.agg #[v0,v1,v2,v3,v4]) t
theorem RTy.sub (W W':World) (cs:List Value) (t:Sx.Ty) (hb:Sub W W') (h:RTy W cs t):RTy W' cs t:=by
 obtain⟨v0,v1,v2,v3,v4,rfl,h⟩:=h;exact⟨v0,v1,v2,v3,v4,rfl,IsTy.sub hb t _ h⟩
def REx (W:World) (cs:List Value) (t:Sx.Ex):Prop:=∃v0 v1 v2 v3 v4 v5 v6,cs=[v0,v1,v2,v3,v4,v5,v6]/\IsEx W (.agg #[v0,v1,v2,v3,v4,v5,v6]) t
theorem REx.sub (W W':World) (cs:List Value) (t:Sx.Ex) (hb:Sub W W') (h:REx W cs t):REx W' cs t:=by
 obtain⟨v0,v1,v2,v3,v4,v5,v6,rfl,h⟩:=h;exact⟨v0,v1,v2,v3,v4,v5,v6,rfl,IsEx.sub hb t _ h⟩
def RSt (W:World) (cs:List Value) (t:Sx.St):Prop:=∃v0 v1 v2 v3 v4 v5 v6,cs=[v0,v1,v2,v3,v4,v5,v6]/\IsSt W (.agg #[v0,v1,v2,v3,v4,v5,v6]) t
theorem RSt.sub (W W':World) (cs:List Value) (t:Sx.St) (hb:Sub W W') (h:RSt W cs t):RSt W' cs t:=by
 obtain⟨v0,v1,v2,v3,v4,v5,v6,rfl,h⟩:=h;exact⟨v0,v1,v2,v3,v4,v5,v6,rfl,IsSt.sub hb t _ h⟩
theorem zlfZ {size:Nat} : ∀ {xss:List (List Value)} (_:∀x∈xss,x.length=size) {i j:Nat} {cs:List Value} (_:xss[i]? =some cs) (_:j<size),xss.flatten[i * size+j]? =cs[j]?
 | [],_,i,j,cs,h,_=>by simp at h
 | x::xss,hx,0,j,cs,h,hj=>by simp at h;subst h;have:=hx x ysZ;rw[List.flatten_cons,yrZ,yGZ,List.getElem?_append_left (by omega)]
 | x::xss,hx,i+1,j,cs,h,hj=>by have h1:=hx x ysZ;rw[List.flatten_cons,List.getElem?_append_right (by rw[h1,Nat.succ_mul];omega),h1,show(i+1) * size+j-size=i * size+j by rw[Nat.succ_mul];omega];exact zlfZ (fun y hy=>hx y (ywZ _ hy)) (by simpa using h) hj
theorem Own.at {α:Type} {R:World->List Value->α->Prop} (hR:∀W W' cs t,Sub W W'->R W cs t->R W' cs t) {e size L:Nat} {X:Option Nat} {w:World} {v:Value} {l:List α} (h:Own R e size L X w v l) :
  ∃A c,v=.slice A l.length c/\l.length<=c/\∀m (hm:m<l.length),∃g cs,A=some ⟨g,0,none⟩/\cs.length=size/\(∀j,j<size->(only w (but L X none)).cell? ⟨g,0+m * size+j,none⟩=cs[j]?)/\R (only w (but L X none)) cs (l[m]'hm):=by
 obtain⟨xss,ho,hl,hx,hr⟩:=h;have H0:∀x∈xss,x.length=size:=by intro x hx;obtain⟨i,hi,rfl⟩:=List.getElem_of_mem hx;obtain⟨cs,h1,h2,-⟩:=hr i (by omega);rw[List.getElem?_eq_getElem hi]at h1;injection h1 with h1;rw[h1];exact h2
 rcases ho.2 with⟨rfl,h0⟩ | ⟨g,cap,cur,rfl,hb,hg,hnc,hcm,hcs,htake⟩
 ·exact⟨none,0,by rw[h0],by omega,fun m hm=>by omega⟩
 ·refine⟨_,cap,rfl,hnc,fun m hm=>?_⟩;obtain⟨cs,h1,h2,h3⟩:=hr m hm;refine⟨g,cs,rfl,h2,fun j hj=>?_,hR _ _ _ _ (znZ fun b hbw hs=>?_) h3⟩
  ·have hXg:some g≠X:=fun e=>(by have:=hx e;rw[this]at e;cases e);rw[zdeZ,if_pos ((zxZ (L:=L) (x:=X) (g:=none)).2 ⟨hb,hXg,fun e=>nomatch e⟩),zdZ hg,<-zlfZ H0 h1 hj,<-htake,yGZ,List.getElem?_take_of_lt,Array.getElem?_toList];have:(m+1) * size<=l.length * size:=Nat.mul_le_mul_right _ hm;rw[Nat.succ_mul]at this;omega
  ·obtain⟨p1,p2,p3⟩:=zxZ.1 hs;exact⟨(zxZ (L:=L) (x:=X) (g:=none)).2 ⟨p1,p2,fun e=>nomatch e⟩,rfl⟩
theorem IsTys.mk {W:World} {A:Option Addr} : ∀ {l:List Sx.Ty} {k:Nat},(∀(m:Nat) (h:m<l.length),∃g off v0 v1 v2 v3 v4,A=some ⟨g,off,none⟩/\W.cell? ⟨g,off+(k+m) * 5,none⟩=some v0/\W.cell? ⟨g,off+(k+m) * 5+1,none⟩=some v1/\
  W.cell? ⟨g,off+(k+m) * 5+2,none⟩=some v2/\W.cell? ⟨g,off+(k+m) * 5+3,none⟩=some v3/\W.cell? ⟨g,off+(k+m) * 5+4,none⟩=some v4/\IsTy W (.agg #[v0,v1,v2,v3,v4]) (l[m]'h))->IsTys W A k l
 | [],k,h=>by rw[IsTys];trivial
 | t::l,k,h=>by rw[IsTys];refine⟨h 0 (yVZ _),IsTys.mk fun m hm=>?_⟩;have:=h (m+1) (by simpa using hm);rw[show k+(m+1)=k+1+m by omega]at this;exact this
theorem Own.tys {e L:Nat} {X:Option Nat} {w:World} {v:Value} {l:List Sx.Ty} (h:Own RTy e 5 L X w v l):TyRow (only w (but L X none)) v l:=by
 obtain⟨A,c,rfl,hc,hm⟩:=h.at RTy.sub;refine⟨A,c,rfl,hc,IsTys.mk fun m h=>?_⟩;obtain⟨g,cs,rfl,hl,hj,v0,v1,v2,v3,v4,rfl,hr⟩:=hm m h;rw[yGZ m];exact⟨g,0,v0,v1,v2,v3,v4,rfl,hj 0 (by decide),hj 1 (by decide),hj 2 (by decide),hj 3 (by decide),hj 4 (by decide),hr⟩
theorem IsExs.mk {W:World} {A:Option Addr} : ∀ {l:List Sx.Ex} {k:Nat},(∀(m:Nat) (h:m<l.length),∃g off v0 v1 v2 v3 v4 v5 v6,A=some ⟨g,off,none⟩/\W.cell? ⟨g,off+(k+m) * 7,none⟩=some v0/\W.cell? ⟨g,off+(k+m) * 7+1,none⟩=some v1/\
  W.cell? ⟨g,off+(k+m) * 7+2,none⟩=some v2/\W.cell? ⟨g,off+(k+m) * 7+3,none⟩=some v3/\W.cell? ⟨g,off+(k+m) * 7+4,none⟩=some v4/\W.cell? ⟨g,off+(k+m) * 7+5,none⟩=some v5/\W.cell? ⟨g,off+(k+m) * 7+6,none⟩=some v6/\
  IsEx W (.agg #[v0,v1,v2,v3,v4,v5,v6]) (l[m]'h))->IsExs W A k l
 | [],k,h=>by rw[IsExs];trivial
 | t::l,k,h=>by rw[IsExs];refine⟨h 0 (yVZ _),IsExs.mk fun m hm=>?_⟩;have:=h (m+1) (by simpa using hm);rw[show k+(m+1)=k+1+m by omega]at this;exact this
theorem Own.exs {e L:Nat} {X:Option Nat} {w:World} {v:Value} {l:List Sx.Ex} (h:Own REx e 7 L X w v l):ExRow (only w (but L X none)) v l:=by
 obtain⟨A,c,rfl,hc,hm⟩:=h.at REx.sub;refine⟨A,c,rfl,hc,IsExs.mk fun m h=>?_⟩;obtain⟨g,cs,rfl,hl,hj,v0,v1,v2,v3,v4,v5,v6,rfl,hr⟩:=hm m h;rw[yGZ m];exact⟨g,0,v0,v1,v2,v3,v4,v5,v6,rfl,hj 0 (by decide),hj 1 (by decide),hj 2 (by decide),hj 3 (by decide),hj 4 (by decide),hj 5 (by decide),hj 6 (by decide),hr⟩
theorem IsSts.mk {W:World} {A:Option Addr} : ∀ {l:List Sx.St} {k:Nat},(∀(m:Nat) (h:m<l.length),∃g off v0 v1 v2 v3 v4 v5 v6,A=some ⟨g,off,none⟩/\W.cell? ⟨g,off+(k+m) * 7,none⟩=some v0/\W.cell? ⟨g,off+(k+m) * 7+1,none⟩=some v1/\
  W.cell? ⟨g,off+(k+m) * 7+2,none⟩=some v2/\W.cell? ⟨g,off+(k+m) * 7+3,none⟩=some v3/\W.cell? ⟨g,off+(k+m) * 7+4,none⟩=some v4/\W.cell? ⟨g,off+(k+m) * 7+5,none⟩=some v5/\W.cell? ⟨g,off+(k+m) * 7+6,none⟩=some v6/\
  IsSt W (.agg #[v0,v1,v2,v3,v4,v5,v6]) (l[m]'h))->IsSts W A k l
 | [],k,h=>by rw[IsSts];trivial
 | t::l,k,h=>by rw[IsSts];refine⟨h 0 (yVZ _),IsSts.mk fun m hm=>?_⟩;have:=h (m+1) (by simpa using hm);rw[show k+(m+1)=k+1+m by omega]at this;exact this
theorem Own.sts {e L:Nat} {X:Option Nat} {w:World} {v:Value} {l:List Sx.St} (h:Own RSt e 7 L X w v l):StRow (only w (but L X none)) v l:=by
 obtain⟨A,c,rfl,hc,hm⟩:=h.at RSt.sub;refine⟨A,c,rfl,hc,IsSts.mk fun m h=>?_⟩;obtain⟨g,cs,rfl,hl,hj,v0,v1,v2,v3,v4,v5,v6,rfl,hr⟩:=hm m h;rw[yGZ m];exact⟨g,0,v0,v1,v2,v3,v4,v5,v6,rfl,hj 0 (by decide),hj 1 (by decide),hj 2 (by decide),hj 3 (by decide),hj 4 (by decide),hj 5 (by decide),hj 6 (by decide),hr⟩
/-! ### append(nil, row...) -/
theorem zgaZ {P:Program} (w:World) (t ty e:TypeId) (i:TypeInfo) (ht:P.underlying t=some (.slice e)) (hi:P.info? e=some i) (c:Nat) :
  (Builtin.append_ #[t,t] ty #[.slice none 0 0,.slice none 0 c]).run P w=.ok (.slice none 0 0) w:=by
 simp[Builtin.append_,run_underlying ht,sizeOf,typeInfo,hi,Builtin.lenOf,Builtin.firstCells]
theorem zfoZ {P:Program} {w:World} {o:Oper} {a:Act} {K:Act->World->Prop} {Q:Exit->Act->World->Prop} (s x:Operand) (t:TypeId)
  (ho:o.op=.call { callee:=.builtin .append,args:=#[s,x],argTypes:=#[t,t] })
  {e bytes:Nat} {z:Value} (ht:P.underlying t=some (.slice e)) (hi:(P.info? e).map (fun i=>(i.zero,i.size,i.bytes))=some (some z,1,bytes)) (hzs:z.cells.size=1)
  (hs:a.eval s=.slice none 0 0) {A:Option Addr} {n c:Nat} {news:List Value} (hl:news.length=n) (hx:a.eval x=.slice A n c)
  (hA:∀j u,news[j]? =some u->∃g off,A=some ⟨g,off,none⟩/\w.cell? ⟨g,off+j,none⟩=some u) (h1:∀u∈news,u.oneCell'=true)
  (hn:n<=1000000) (hby:bytes<=1000)
  (h:∀A c w',w'.ownsRow w.heap.size e 1 (.slice A n c) n news->Below w.heap.size w w'->K (a.put o.dst (.slice A n c)) w'):o.wp P a w K Q:=by
 subst hl;obtain⟨i,hi1,hi2⟩:=yibZ.1 hi;simp only[Prod.mk.injEq]at hi2;obtain⟨i1,i2,i3⟩:=hi2
 cases A with
 | none=>
  have H1:news=[]:=by
   cases news with
   | nil=>rfl
   | cons u l=>obtain⟨g,off,h,-⟩:=hA 0 u rfl;cases h
  subst H1;have H2:=zgaZ (P:=P) w t o.type e i ht hi1 c;unfold Oper.wp execOp;simp only[ynZ]at hx;simp only[ho,resolve,invoke,builtin,Sem.run_bind,Sem.run_pure,Result.andThen_ok,yIZ,yPZ,yRZ,hs,hx,H2];exact h _ _ _ (yOZ w _ e 1) (yqZ _ _)
 | some ad=>
  have H0:∀j u,news[j]? =some u->w.cell? (ad.add j)=some u:=(by intro j u hj;obtain⟨g,off,hg,hc⟩:=hA j u hj;injection hg with hg;subst hg;rw[zclZ];exact hc);refine zdjZ s x t ho w.heap.size e i z 1 bytes ht hi1 i1 i2 i3 hzs Nat.one_pos _ 0 [] hs (yOZ w _ e 1) ad news.length c news hx (by omega) H0 h1 (by unfold maxLen;omega) ?_ (ybZ _) ?_
  ·have:=Nat.mul_le_mul hn hby;rw[yGZ];omega
  ·intro v' w' hown hg _;rw[yGZ]at hown;have H3:∃A c,v'=.slice A news.length c:=by
    rcases hown.2 with⟨rfl,h0⟩ | ⟨g,cap,cur,rfl,-⟩
    ·exact⟨none,0,by rw[h0]⟩
    ·exact⟨_,cap,rfl⟩
   obtain⟨A',c',rfl⟩:=H3;exact h A' c' w' (by simpa using hown) ⟨hg.os,hg.tape,hg.output,hg.size,fun k hk=>hg.block k hk (by simp[Value.ownBlock])⟩
theorem zlgZ {w:World} {L e:Nat} {v:Value} {ns:List Lx.Bytes} (h:w.ownsRow L e 1 v ns.length (strsV ns)):StrRow (only w (since L)) v ns:=by
 rcases h.2 with⟨rfl,h0⟩ | ⟨g,cap,cur,rfl,hb,hg,_,_,_,ht⟩
 ·exact⟨none,0,by rw[h0],fun i hi=>by omega⟩
 ·refine⟨_,cap,rfl,fun i hi=>⟨g,0,rfl,?_⟩⟩;rw[zdeZ,if_pos (zmZ.2 hb),zdZ hg,yGZ,<-Array.getElem?_toList,<-List.getElem?_take_of_lt (l:=cur.toList) (j:=ns.length * 1) (by omega),ht];simp[strsV,hi]
theorem zkgZ {w:World} {L e:Nat} {v:Value} {ns:List Bool} (h:w.ownsRow L e 1 v ns.length (ns.map Value.bool)):BoolRow (only w (since L)) v ns:=by
 rcases h.2 with⟨rfl,h0⟩ | ⟨g,cap,cur,rfl,hb,hg,_,_,_,ht⟩
 ·exact⟨none,0,by rw[h0],fun i hi=>by omega⟩
 ·refine⟨_,cap,rfl,fun i hi=>⟨g,0,rfl,?_⟩⟩;rw[zdeZ,if_pos (zmZ.2 hb),zdZ hg,yGZ,<-Array.getElem?_toList,<-List.getElem?_take_of_lt (l:=cur.toList) (j:=ns.length * 1) (by omega),ht];simp[hi]
theorem zsiZ:(Tryz.prog.info? 4).map (fun i=>(i.zero,i.size,i.bytes))=some (some (.bool false),1,1):=by kernel_rfl
theorem zlhZ:(Tryz.prog.info? 26).map (fun i=>(i.zero,i.size,i.bytes))=some (some (.agg #[.int .i64 0,.string ⟨#[]⟩,.slice none 0 0,.slice none 0 0,.slice none 0 0]),5,96):=by kernel_rfl
theorem zgbZ (ns:List Lx.Bytes):∀u∈strsV ns,u.oneCell'=true:=by
 intro u hu;unfold strsV at hu;obtain⟨s,-,rfl⟩:=List.mem_map.1 hu;rfl
theorem StrRow.cells {W:World} {A:Option Addr} {k c:Nat} {ns:List Lx.Bytes} (h:StrRow W (.slice A k c) ns):k=ns.length/\∀j u,(strsV ns)[j]? =some u->∃g off,A=some ⟨g,off,none⟩/\W.cell? ⟨g,off+j,none⟩=some u:=by
 obtain⟨A',c',hv,hl⟩:=h;injection hv with h1 h2 h3;subst h1;refine⟨h2,fun j u hj=>?_⟩;unfold strsV at hj;obtain⟨s,hs,rfl⟩:=List.getElem?_map .. ▸hj |> yibZ.1;obtain⟨hlt,rfl⟩:=List.getElem?_eq_some_iff.1 hs;exact hl j hlt
theorem BoolRow.cells {W:World} {A:Option Addr} {k c:Nat} {es:List Bool} (h:BoolRow W (.slice A k c) es):k=es.length/\∀j u,(es.map Value.bool)[j]? =some u->∃g off,A=some ⟨g,off,none⟩/\W.cell? ⟨g,off+j,none⟩=some u:=by
 obtain⟨A',c',hv,hl⟩:=h;injection hv with h1 h2 h3;subst h1;refine⟨h2,fun j u hj=>?_⟩;obtain⟨s,hs,rfl⟩:=List.getElem?_map .. ▸hj |> yibZ.1;obtain⟨hlt,rfl⟩:=List.getElem?_eq_some_iff.1 hs;exact hl j hlt
theorem zjcZ {w:World} {o:Oper} {a:Act} {K:Act->World->Prop} {Q:Exit->Act->World->Prop} (s x:Operand)
  (ho:o.op=.call { callee:=.builtin .append,args:=#[s,x],argTypes:=#[22, 22] })
  (hs:a.eval s=.slice none 0 0) {A:Option Addr} {n c:Nat} {ns:List Lx.Bytes} (hx:a.eval x=.slice A n c) (hr:StrRow w (.slice A n c) ns) (hn:n<=1000000)
  (h:∀A c w',StrRow (only w' (since w.heap.size)) (.slice A n c) ns->Below w.heap.size w w'->K (a.put o.dst (.slice A n c)) w'):o.wp Tryz.prog a w K Q:=by
 obtain⟨hk,hc⟩:=hr.cells;refine zfoZ s x 22 ho Tryz.underlying22 zdsZ rfl hs (news:=strsV ns) (by unfold strsV;rw[List.length_map,hk]) hx hc (zgbZ ns) hn (by omega) ?_;intro A' c' w' hown hb;refine h A' c' w' ?_ hb;rw[hk]at hown ⊢;exact zlgZ hown
theorem zijZ {w:World} {o:Oper} {a:Act} {K:Act->World->Prop} {Q:Exit->Act->World->Prop} (s x:Operand)
  (ho:o.op=.call { callee:=.builtin .append,args:=#[s,x],argTypes:=#[23, 23] })
  (hs:a.eval s=.slice none 0 0) {A:Option Addr} {n c:Nat} {ns:List Bool} (hx:a.eval x=.slice A n c) (hr:BoolRow w (.slice A n c) ns) (hn:n<=1000000)
  (h:∀A c w',BoolRow (only w' (since w.heap.size)) (.slice A n c) ns->Below w.heap.size w w'->K (a.put o.dst (.slice A n c)) w'):o.wp Tryz.prog a w K Q:=by
 obtain⟨hk,hc⟩:=hr.cells;refine zfoZ s x 23 ho Tryz.underlying23 zsiZ rfl hs (news:=ns.map Value.bool) (by rw[List.length_map,hk]) hx hc (fun u hu=>by obtain⟨b,-,rfl⟩:=List.mem_map.1 hu;rfl) hn (by omega) ?_;intro A' c' w' hown hb;refine h A' c' w' ?_ hb;rw[hk]at hown ⊢;exact zkgZ hown
theorem zdfZ {w:World} {ops:Array Oper} {rest:List Oper} {o:Oper} {a:Act} {Q:Exit->Act->World->Prop} (hgd:o.guard=none) (s x:Operand)
  (ho:o.op=.call { callee:=.builtin .append,args:=#[s,x],argTypes:=#[22, 22] })
  (hs:a.eval s=.slice none 0 0) {A:Option Addr} {n c:Nat} {ns:List Lx.Bytes} (hx:a.eval x=.slice A n c) (hr:StrRow w (.slice A n c) ns) (hn:n<=1000000)
  (h:∀A c w',StrRow (only w' (since w.heap.size)) (.slice A n c) ns->Below w.heap.size w w'->wpList Tryz.prog ops Q rest (a.put o.dst (.slice A n c)) w'):wpList Tryz.prog ops Q (o::rest) a w:=
 wpList_plain hgd fun K hK=>zjcZ s x ho hs hx hr hn fun A c w' h2 h3=>hK _ _ (h A c w' h2 h3)
theorem zfsZ {w:World} {ops:Array Oper} {rest:List Oper} {o:Oper} {a:Act} {Q:Exit->Act->World->Prop} (hgd:o.guard=none) (s x:Operand)
  (ho:o.op=.call { callee:=.builtin .append,args:=#[s,x],argTypes:=#[23, 23] })
  (hs:a.eval s=.slice none 0 0) {A:Option Addr} {n c:Nat} {ns:List Bool} (hx:a.eval x=.slice A n c) (hr:BoolRow w (.slice A n c) ns) (hn:n<=1000000)
  (h:∀A c w',BoolRow (only w' (since w.heap.size)) (.slice A n c) ns->Below w.heap.size w w'->wpList Tryz.prog ops Q rest (a.put o.dst (.slice A n c)) w'):wpList Tryz.prog ops Q (o::rest) a w:=
 wpList_plain hgd fun K hK=>zijZ s x ho hs hx hr hn fun A c w' h2 h3=>hK _ _ (h A c w' h2 h3)
end Go.Proofs.YtdncljdfmdgdaaaGreatDoor
namespace Go.Proofs.YtdncljdfmdgdaaaGreatDoor
open Go.RowKit Go.Shelf Go.WideMaps
def Wri (B b:Nat) (x:Sx.Wr) (w:World):Prop:=
 B<=b/\∃p v,w.heap[b]? =some (.cells #[.pointer p,v,.int .i64 (x.n:Nat)] 104 (0,0))/\(p=none\/p=some ⟨b,0,none⟩)/\OwnB w B v x.b/\(x.b=[]->v=.slice none 0 0)
def KeepW (w w':World):Prop:=∀(k:Nat) (cs:Array Value) (t:TypeId) (fr:Nat×Nat),w.heap[k]? =some (Obj.cells cs t fr)->t≠ 5 ->t≠ 104 ->w'.heap[k]? =some (Obj.cells cs t fr)
theorem KeepW.refl (w:World):KeepW w w:=fun _ _ _ _ h _ _=>h
theorem KeepW.trans {a b c:World} (h:KeepW a b) (h':KeepW b c):KeepW a c:=fun k cs t fr hk h1 h2=>h' k cs t fr (h k cs t fr hk h1 h2) h1 h2
theorem KeepW.grown {w w':World} {row:Option Nat} (hg:w.grownBy w' row) (hr:∀j,row=some j->∀cs t fr,w.heap[j]? =some (.cells cs t fr)->t= 5):KeepW w w':=by
 intro k cs t fr hk h1 h2;refine(hg.block k (zaZ hk) (fun e=>?_)).trans hk;exact h1 (hr k e.symm cs t fr hk)
theorem KeepW.set {w:World} {b:Nat} {cs:Array Value} {fr:Nat×Nat} (h:w.heap[b]? =some (.cells cs 104 fr)) (j:Nat) (u:Value):KeepW w (w.setCell ⟨b,j,none⟩ u):=by
 intro k cs t fr hk h1 h2;refine(yuZ w ⟨b,j,none⟩ u k ?_).trans hk;rintro rfl;rw[show w.heap[k]? =_ from h]at hk;injection hk with hk;injection hk with _ hk;exact h2 hk.symm
theorem KeepW.drew (w:World):KeepW w w.drew:=fun _ _ _ _ h _ _=>h
theorem zsjZ:(Tryz.prog.info? 100).map (·.size)=some 2:=by kernel_rfl
theorem zskZ:liesAt Tryz.prog Tryz.prog.depth 104 (3 / Tryz.prog.cellsOf 104) 0 100 1=true:=by kernel_rfl
theorem zslZ (b:Nat) (w:World) (h0:w.cell? ⟨b,0,none⟩=some (.pointer none)) (hsh:w.shape? b=some (104,3)) (hfz:w.frozen? ⟨b,0,none⟩=false) :
  Calls Tryz.prog 129 #[.pointer (some ⟨b,0,none⟩)] w fun e w'=>e=.returned (.tuple #[])/\w'=w.setCell ⟨b,0,none⟩ (.pointer (some ⟨b,0,none⟩)):=by
 obtain⟨j,hj,hjs⟩:=yibZ.1 zsjZ;go_enter Tryz.func129, Tryz.ntmps129;go_wp2;rw[Lib.run_to_unsafe w ⟨b,0,none⟩ Tryz.underlying97 Tryz.underlying187 hj (by rw[hjs];decide) hsh (Nat.zero_lt_succ 2)];simp only[Result.andThen];rw[Oper.upon_value];go_wp2;rw[run_callFunc_extern Tryz.func148 (by kernel_rfl) (by kernel_rfl) (by kernel_rfl) (e:=Extern.AbiNoEscape.same) (by kernel_rfl)];rw[Lib.run_noEscape];simp only[Result.andThen];rw[Oper.upon_value];go_wp2;rw[Lib.run_from_unsafe w ⟨b,0,none⟩ Tryz.underlying187 Tryz.underlying97 hj hsh zskZ];simp only[Result.andThen];rw[Oper.upon_value];go_wp2;go_end0;exact⟨rfl,rfl⟩
def WriAt (B b:Nat) (v:Value) (x:Sx.Wr) (w:World):Prop:=
 B<=b/\w.heap[b]? =some (.cells #[.pointer (some ⟨b,0,none⟩),v,.int .i64 (x.n:Nat)] 104 (0,0))/\OwnB w B v x.b/\(x.b=[]->v=.slice none 0 0)
theorem WriAt.wri {B b:Nat} {v:Value} {x:Sx.Wr} {w:World} (h:WriAt B b v x w):Wri B b x w:=⟨h.1,_,_,h.2.1,.inr rfl,h.2.2⟩
theorem zjdZ {w:World} {B b:Nat} {v:Value} {l:List UInt8} {cs:Array Value} {fr:Nat×Nat} (ho:OwnB w B v l) (hb:w.heap[b]? =some (.cells cs 104 fr)):some b≠v.ownBlock:=by
 intro e;obtain⟨_,c,h2⟩:=zckZ ho b e.symm;rw[hb]at h2;injection h2 with h2;injection h2 with _ h2;exact absurd h2 (by decide)
theorem zczZ {w:World} {B b j:Nat} {v:Value} {l:List UInt8} {cs:Array Value} {fr:Nat×Nat} (ho:OwnB w B v l) (hb:w.heap[b]? =some (.cells cs 104 fr)) (u:Value):OwnB (w.setCell ⟨b,j,none⟩ u) B v l:=
 World.ownsRow.kept ho (ziZ w b j u) (.inr (fun e=>zjdZ ho hb e.symm))
theorem zliZ (B b:Nat) (x:Sx.Wr) (w:World) (h:Wri B b x w) :
  Calls Tryz.prog 129 #[.pointer (some ⟨b,0,none⟩)] w fun e w'=>e=.returned (.tuple #[])/\(∃v,WriAt B b v x w')/\Below B w w'/\KeepW w w':=by
 obtain⟨hB,p,v,hb,hp,ho,hx⟩:=h;rcases hp with rfl | rfl
 ·refine(zslZ b w (zdZ hb 0) (by simp[World.shape?,hb]) (zsZ hb 0)).mono ?_;rintro e w' ⟨rfl,rfl⟩;exact⟨rfl,⟨v,hB,by simp[World.setCell,Array.getElem?_modify,hb],zczZ ho hb _,hx⟩,(yqZ B w).setCell (p:=⟨b,0,none⟩) hB _,KeepW.set hb 0 _⟩
 ·refine(zndZ b w (zdZ hb 0)).mono ?_;rintro e w' ⟨rfl,rfl⟩;exact⟨rfl,⟨v,hB,hb,ho,hx⟩,yqZ B _,KeepW.refl _⟩
theorem zpjZ (B b:Nat) (x:Sx.Wr) (w:World) (h:Wri B b x w) :
  Calls Tryz.prog 92 #[.pointer (some ⟨b,0,none⟩)] w fun e w'=>e=.returned (.int .i64 (x.b.length:Nat))/\w'=w:=by
 obtain⟨hB,p,v,hb,hp,ho,hx⟩:=h;obtain⟨A,c,rfl⟩:=OwnB.slice ho;have c1:w.cell? ⟨b,1,none⟩=some (.slice A x.b.length c):=zdZ hb 1;go_enter Tryz.func92, Tryz.ntmps92;go_wp2;go_ret;exact⟨rfl,rfl⟩
theorem zuvZ (B b:Nat) (x:Sx.Wr) (c:UInt8) (w:World) (h:Wri B b x w) (hlen:x.b.length+1<=140737488351232) (hBw:B<=w.heap.size) :
  Calls Tryz.prog 93 #[.pointer (some ⟨b,0,none⟩),.int .u8 (c.toNat:Int)] w fun e w'=>e=.returned .nilIface/\Wri B b ⟨x.b++[c],x.n⟩ w'/\Below B w w'/\KeepW w w':=by
 go_enter Tryz.func93, Tryz.ntmps93
 go_wp2_with (go_at_call 129;refine(zliZ B b x _ h).mono ?_)
 rintro e w1 ⟨rfl,⟨v,hB,H1,ho,hx⟩,H4,H9⟩;have H6:b<w1.heap.size:=zaZ H1;have c0:w1.cell? ⟨b,0,none⟩=some (.pointer (some ⟨b,0,none⟩)):=zdZ H1 0;have c1:w1.cell? ⟨b,1,none⟩=some v:=zdZ H1 1;have Ha:=H4.size;go_wp2_with (at_builtin;refine zcnZ B rfl _ _ rfl v x.b c rfl rfl ho (by omega) (by omega) ?_);intro v2 w2 H3 H5;have hg:w1.grownBy w2 v.ownBlock:=(yeZ w1 _ _).trans H5;have H0:w2.heap[b]? =some (.cells #[.pointer (some ⟨b,0,none⟩),v,.int .i64 (x.n:Nat)] 104 (0,0)):=(hg.block b H6 (zjdZ ho H1)).trans H1;have f1:w2.frozen? ⟨b,1,none⟩=false:=zsZ H0 1;have c2:w2.cell? ⟨b,1,none⟩=some v:=zdZ H0 1;have H7:b<w2.heap.size:=zaZ H0;obtain⟨A2,k2,hv2⟩:=OwnB.slice H3;rw[show(x.b++[c]).length=x.b.length+1 by simp]at hv2;subst hv2;have H8:=zh H3;have HO:=zh ho;have H2:=zh H0;have HG:=zh hg;clear hg H5 H3 ho H0;go_wp2;go_ret;refine⟨rfl,⟨hB,_,_,by simp[World.setCell,Array.getElem?_modify,H2.o],.inr rfl,zczZ H8.o H2.o _,fun e=>by simp at e⟩,?_,?_⟩
 ·exact(H4.grown HG.o (by omega) (fun k hk=>OwnB.base HO.o k hk)).setCell (p:=⟨b,1,none⟩) hB _
 ·refine(H9.trans (KeepW.grown HG.o ?_)).trans (KeepW.set H2.o 1 _);intro j e cs t fr hj;obtain⟨_,c,h2⟩:=zckZ HO.o j e;rw[h2]at hj;injection hj with hj;injection hj with _ hj;exact hj.symm
theorem zpkZ (B b:Nat) (x:Sx.Wr) (s:Lx.Bytes) (w:World) (h:Wri B b x w) (hs:s≠[]) (hlen:x.b.length+s.length<=140737488351232) (hBw:B<=w.heap.size) :
  Calls Tryz.prog 94 #[.pointer (some ⟨b,0,none⟩),.string ⟨s.toArray⟩] w fun e w'=>(∃u,e=.returned u)/\Wri B b ⟨x.b++s,x.n⟩ w'/\Below B w w'/\KeepW w w':=by
 obtain⟨i0,hi,hz0,hz1,hz2⟩:=info_parts zddZ;obtain⟨S,hS⟩:∃S:ByteArray,(⟨s.toArray⟩:ByteArray)=S:=⟨_,rfl⟩;have H5:S.data.toList=s:=by rw[<-hS]
 have H0:S.size=s.length:=by rw[<-hS];simp[ByteArray.size]
 rw[hS];have Hd:=zh H5;have H7:=zh H0;have H6:x.b.length+S.size<=140737488351232:=by omega
 clear H5 H0 hS;go_enter Tryz.func94, Tryz.ntmps94;go_wp2_with (go_at_call 129;refine(zliZ B b x _ h).mono ?_);rintro e w1 ⟨rfl,⟨v,hB,H1,ho,hx⟩,H8,Hb⟩;have Hc:b<w1.heap.size:=zaZ H1;have c0:w1.cell? ⟨b,0,none⟩=some (.pointer (some ⟨b,0,none⟩)):=zdZ H1 0;have c1:w1.cell? ⟨b,1,none⟩=some v:=zdZ H1 1;have He:=H8.size;have hown:=ho;unfold OwnB at hown;go_wp2_with (at_builtin;refine Lib.wpList_append_own_string (P:= Tryz.prog) (w:=w1) rfl _ _ 98 9 rfl B 5 i0 Tryz.underlying98 Tryz.underlying9 hi hz0 hz1 hz2 _ _ _ rfl hown S rfl (by unfold maxLen;omega) (by omega) (by omega) ?_);intro v2 w2 hown' hg _;have H2:w2.heap[b]? =some (.cells #[.pointer (some ⟨b,0,none⟩),v,.int .i64 (x.n:Nat)] 104 (0,0)):=(hg.block b Hc (zjdZ ho H1)).trans H1;have H4:OwnB w2 B v2 (x.b++s):=by unfold OwnB;have e:bytesV (x.b++s)=bytesV x.b++Lib.strCells S:=(by simp[bytesV,Lib.strCells,Hd.o]);rw[e,ycZ,<-H7.o];exact hown'
 have f1:w2.frozen? ⟨b,1,none⟩=false:=zsZ H2 1;have c2:w2.cell? ⟨b,1,none⟩=some v:=zdZ H2 1;have H9:b<w2.heap.size:=zaZ H2;obtain⟨A2,k2,hv2⟩:=OwnB.slice H4;rw[show(x.b++s).length=x.b.length+S.size by rw[ycZ,H7.o]]at hv2;subst hv2;have Ha:=zh H4;have HO:=zh ho;have H3:=zh H2;have HG:=zh hg;clear hg H4 ho H2 hown hown';go_wp2;refine ylZ (yDZ rfl _ _ _) rfl ?_;refine⟨⟨_,rfl⟩,⟨hB,_,_,by simp[World.setCell,Array.getElem?_modify,H3.o],.inr rfl,zczZ Ha.o H3.o _,fun e=>absurd (List.append_eq_nil_iff.1 e).2 hs⟩,?_,?_⟩
 ·exact(H8.grown HG.o (by omega) (fun k hk=>OwnB.base HO.o k hk)).setCell (p:=⟨b,1,none⟩) hB _
 ·refine(Hb.trans (KeepW.grown HG.o ?_)).trans (KeepW.set H3.o 1 _);intro j e cs t fr hj;obtain⟨_,c,h2⟩:=zckZ HO.o j e;rw[h2]at hj;injection hj with hj;injection hj with _ hj;exact hj.symm
end Go.Proofs.YtdncljdfmdgdaaaGreatDoor
namespace Go.Proofs.YtdncljdfmdgdaaaGreatDoor.Sx
open Go.Proofs.YtdncljdfmdgdaaaGreatDoor.Lx (Bytes)
def textFrom:Nat->Bytes->List Bytes->Option Bytes
 | _,b,[]=>some b
 | i,b,s::l=>
  if 65536<((if 0<i then b++[32]else b)++s).length then none
  else textFrom (i+1) ((if 0<i then b++[32]else b)++s) l
def text (l:List Bytes):Bytes×Nat:=
 match textFrom 0 [] l with
 | none=>([],2)
 | some b=>if 4096<l.length then([],3)else(b,0)
theorem puts_cons (w:Wr) (s:Bytes) (l:List Bytes):puts w (s::l)=puts (put w s) l:=rfl
theorem puts_n:∀(l:List Bytes) (w:Wr),(puts w l).n=w.n+l.length
 | [],w=>rfl
 | s::l,w=>by rw[puts_cons,puts_n l];simp[put];omega
theorem zjpZ:∀(l:List Bytes) (w:Wr),65536<w.b.length->65536<(puts w l).b.length
 | [],w,h=>h
 | s::l,w,h=>by rw[puts_cons];refine zjpZ l _ ?_;unfold put;rw[if_pos h];exact h
theorem zjqZ:∀(l:List Bytes) (b:Bytes) (i:Nat),(∀s∈l,s≠[])->b.length<=65536->(0<i↔0<b.length)->
  (textFrom i b l=none->65536<(puts ⟨b,i⟩ l).b.length)/\(∀c,textFrom i b l=some c->(puts ⟨b,i⟩ l).b=c/\c.length<=65536)
 | [],b,i,_,hb,_=>⟨fun h=>by simp[textFrom]at h,fun c h=>by simp only[textFrom]at h;injection h with h;subst h;exact⟨rfl,hb⟩⟩
 | s::l,b,i,hs,hb,hi=>by
  have H0:put ⟨b,i⟩ s=⟨(if 0<i then b++[32]else b)++s,i+1⟩:=by
   unfold put;rw[if_neg (by simp only;omega)];by_cases h:0<i
   ·rw[if_pos h,if_pos (hi.1 h)]
   ·rw[if_neg h,if_neg (fun h'=>h (hi.2 h'))]
  rw[puts_cons,H0,textFrom];have H1:s≠[]:=hs s (ysZ ..);have H2:0<s.length:=List.length_pos_iff.2 H1;by_cases hlong:65536<((if 0<i then b++[32]else b)++s).length
  ·rw[if_pos hlong];exact⟨fun _=>zjpZ l _ hlong,fun c h=>by cases h⟩
  ·rw[if_neg hlong];refine zjqZ l _ (i+1) (fun x hx=>hs x (ywZ _ hx)) (by omega) ⟨fun _=>?_,fun _=>by omega⟩;rw[ycZ];omega
theorem told_text {l:List Bytes} (hs:∀s∈l,s≠[]):told true (puts ⟨[],0⟩ l)=text l:=by
 have h:=zjqZ l [] 0 hs (by simp) (by simp);have hn:=puts_n l ⟨[],0⟩;unfold told text;simp only[Bool.not_true,Bool.false_eq_true,yXZ]
 cases ht:textFrom 0 [] l with
 | none=>rw[if_pos (h.1 ht)]
 | some c=>obtain⟨h1,h2⟩:=h.2 c ht;rw[h1,hn];simp only;rw[if_neg (by omega)];simp
end Go.Proofs.YtdncljdfmdgdaaaGreatDoor.Sx
namespace Go.Proofs.YtdncljdfmdgdaaaGreatDoor
open Go.RowKit Go.Shelf Go.WideMaps
theorem zuwZ : Tryz.prog.cellsOf 5 =1:=by kernel_rfl
theorem zplZ (B b:Nat) (x:Sx.Wr) (w:World) (h:Wri B b x w) :
  Calls Tryz.prog 95 #[.pointer (some ⟨b,0,none⟩)] w fun e w'=>e=.returned (.string ⟨x.b.toArray⟩)/\Below B w w':=by
 obtain⟨hB,p,v,hb,hp,ho,hx⟩:=h;by_cases h0:x.b=[]
 ·obtain rfl:=hx h0;rw[h0];have hUS:∀(W:World) (q:Option Addr),(Builtin.unsafeString_ #[174, 3] 9 #[.pointer q,.int .i64 0]).run Tryz.prog W=.ok (.string .empty) W:=fun W q=>Lib.run_unsafeString_none _ _ _ _ _;have c1:w.drew.cell? ⟨b,1,none⟩=some (.slice none 0 0):=zdZ (show w.drew.heap[b]? =_ from hb) 1;have hSD:(Builtin.unsafeSliceData_ #[98] 174 #[.slice none 0 0]).run Tryz.prog w.drew=.ok (.pointer none) w.drew:=rfl;go_enter Tryz.func95, Tryz.ntmps95;go_wp2
  go_region
  all_goals (go_wp2;go_ret;exact⟨rfl,Below.drew (yqZ B w)⟩)
 ·obtain⟨l,hl⟩:∃l,x.b=l:=⟨_,rfl⟩;rw[hl]at ho h0 ⊢;have H1:l.length≠0:=(by simpa using h0);obtain⟨g,cap,cur,rfl,hbg,hg,hnc,hcm,hcs,htake⟩:∃g cap cur,v=.slice (some ⟨g,0,none⟩) l.length cap/\B<=g/\w.heap[g]? =some (.cells cur 5 (0,0))/\l.length<=cap/\cap<=maxLen/\cur.size=cap * 1/\cur.toList.take (l.length * 1)=bytesV l:=by
   rcases ho.2 with⟨_,hz⟩ | ⟨g,cap,cur,hv,r⟩
   ·exact absurd hz H1
   ·exact⟨g,cap,cur,hv,r⟩
  have c1:w.drew.cell? ⟨b,1,none⟩=some (.slice (some ⟨g,0,none⟩) l.length cap):=zdZ (show w.drew.heap[b]? =_ from hb) 1;have hSD:(Builtin.unsafeSliceData_ #[98] 174 #[.slice (some ⟨g,0,none⟩) l.length cap]).run Tryz.prog w.drew=.ok (.pointer (some ⟨g,0,none⟩)) w.drew:=
   Lib.run_unsafeSliceData_row _ _ _ _ _ _ (by omega)
  have hUS:(Builtin.unsafeString_ #[174, 3] 9 #[.pointer (some ⟨g,0,none⟩),.int .i64 l.length]).run Tryz.prog w.drew=.ok (.string ⟨l.toArray⟩) (w.drew.freeze ⟨g,0,none⟩ l.length):=(by refine Lib.run_unsafeString_row w.drew 174 3 9 5 Tryz.underlying174 zuwZ g cur.size (by have H0:w.drew.heap[g]? =some (.cells cur 5 (0,0)):=hg;simp[World.shape?,H0]) l h0 (by omega) (by unfold maxLen at hcm;omega) ?_;intro j y hy;have:=World.ownsRow.cells ho (g:=g) rfl j (.int .u8 y.toNat) (by simp[bytesV,hy]);exact this);go_enter Tryz.func95, Tryz.ntmps95;go_wp2
  go_region
  all_goals (go_wp2;go_ret;exact⟨rfl,Lib.below_freeze (Below.drew (yqZ B w)) (p:=⟨g,0,none⟩) hbg _⟩)
theorem Wri.tick {B b:Nat} {x:Sx.Wr} {w:World} (h:Wri B b x w):Wri B b ⟨x.b,x.n+1⟩ (w.setCell ⟨b,2,none⟩ (.int .i64 ((x.n:Int)+1)))/\KeepW w (w.setCell ⟨b,2,none⟩ (.int .i64 ((x.n:Int)+1)))/\Below B w (w.setCell ⟨b,2,none⟩ (.int .i64 ((x.n:Int)+1))):=by
 obtain⟨hB,p,v,hb,hp,ho,hx⟩:=h;exact⟨⟨hB,p,v,by simp[World.setCell,Array.getElem?_modify,hb],hp,zczZ ho hb _,hx⟩,KeepW.set hb 2 _,(yqZ B w).setCell (p:=⟨b,2,none⟩) hB _⟩
theorem Wri.cells {B b:Nat} {x:Sx.Wr} {w:World} (h:Wri B b x w):w.cell? ⟨b,2,none⟩=some (.int .i64 (x.n:Nat))/\w.frozen? ⟨b,2,none⟩=false/\b<w.heap.size/\B<=b:=by
 obtain⟨hB,p,v,hb,hp,ho,hx⟩:=h;exact⟨zdZ hb 2,zsZ hb 2,zaZ hb,hB⟩
theorem Sx.put_len {x:Sx.Wr} {s:Lx.Bytes} (hx:x.b.length<=1000065537) (hs:s.length<=1000000000):(Sx.put x s).b.length<=1000065537:=by
 unfold Sx.put;simp only;split
 ·exact hx
 ·split <;> simp <;> omega
theorem Sx.puts_len:∀(l:List Lx.Bytes) (x:Sx.Wr),x.b.length<=1000065537->(∀s∈l,s.length<=1000000000)->(Sx.puts x l).b.length<=1000065537
 | [],x,hx,_=>hx
 | s::l,x,hx,hl=>by rw[Sx.puts_cons];exact Sx.puts_len l _ (Sx.put_len hx (hl s (ysZ ..))) (fun t ht=>hl t (ywZ _ ht))
theorem Sx.puts_take {l:List Lx.Bytes} {m:Nat} (x:Sx.Wr) (h:m<l.length):Sx.puts x (l.take (m+1))=Sx.put (Sx.puts x (l.take m)) l[m]:=by
 rw[ykZ h,Sx.puts_append];rfl
def Row (w:World) (g:Nat) (l:List Lx.Bytes):Prop:=w.heap[g]? =some (.cells (strsV l).toArray 9 (0,0))
theorem Row.at {w:World} {g m:Nat} {l:List Lx.Bytes} (h:Row w g l) (hm:m<l.length):w.cell? ⟨g,m,none⟩=some (.string ⟨(l[m]'hm).toArray⟩):=by
 rw[zdZ h];simp[strsV,hm]
theorem zwpZ (B b g:Nat) (l:List Lx.Bytes) (x:Sx.Wr) (w:World) (h:Wri B b x w) (hl:Row w g l) (hs:∀s∈l,s≠[]/\s.length<=1000000000) (hx:x.b.length<=1000065537) (hn:x.n+l.length<=1000000000) (hBw:B<=w.heap.size) :
  Calls Tryz.prog 100 #[.pointer (some ⟨b,0,none⟩),.slice (some ⟨g,0,none⟩) l.length l.length] w fun e w'=>e=.returned (.tuple #[])/\Wri B b (Sx.puts x l) w'/\Below B w w'/\KeepW w w':=by
 have H:=zh h;have HL:=zh hl;have HS:=zh hs;clear h hl hs;go_enter Tryz.func100, Tryz.ntmps100;go_wp2_with fail;go_loopg [8] (l.length) (fun i v wr=>∃(m:Nat),i=l.length-m/\v=.int .i64 (m:Int)/\m<=l.length/\Wri B b (Sx.puts x (l.take m)) wr/\Below B w wr/\KeepW w wr)
 case atStart=>exact⟨0,rfl,rfl,yxZ _,H.o,yqZ _ _,KeepW.refl _⟩
 case round=>
  obtain⟨m,hi,rfl,hm,hW,hb,hk⟩:=hrel;have HI:=zh hi;have HB:=zh hb;have HK:=zh hk;have m0:(0:Int)<=(m:Int):=(by omega);by_cases hlt:m<l.length
  ·have Hl:(m:Int)<(l.length:Int):=(by omega);have Hx:(m:Int)<=1000000000:=(by omega);obtain⟨y,hy⟩:=zE (Sx.puts x (l.take m));have Ha:y.n=x.n+m:=(by rw[<-hy,Sx.puts_n];simp;omega);have Ho:y.b.length<=1000065537:=(by rw[<-hy];exact Sx.puts_len _ _ hx (fun s hs=>(HS.o s (List.mem_of_mem_take hs)).2));have H4:=Sx.puts_take x hlt;rw[hy]at hW H4;have hr:Row wr g l:=hk _ _ _ _ HL.o (by decide) (by decide);have hc:=hr.at hlt;have Hy:=zaZ hr;obtain⟨s,hse⟩:=zE (l[m]'hlt);rw[hse]at hc H4;have H9:=HS.o s (by rw[<-hse];exact yfZ hlt);have Hu:=H9.2;have Hb:=H9.1;obtain⟨c2,f2,hbl,hBb⟩:=hW.cells;have Hs:(y.n:Int)<=1000000000:=(by omega);have Hk:(0:Int)<=(y.n:Int):=(by omega);have Ht:=hb.size;have HT:=zh hW.tick;have H6:=zh H4;have Hd:=zh Hb;obtain⟨yb,hyb⟩:=zE (y.b.length);have H0:=zh hyb;have Hn:yb<=1000065537:=(by omega);have Hm:(0:Int)<=(yb:Int):=(by omega);have H1:(wr.setCell ⟨b,2,none⟩ (.int .i64 ((y.n:Int)+1))).heap.size=wr.heap.size:=(by simp[World.setCell]);have H3:∀W,Wri B b ⟨y.b,y.n+1⟩ W->Calls Tryz.prog 92 #[.pointer (some ⟨b,0,none⟩)] W fun e w'=>e=.returned (.int .i64 (yb:Nat))/\w'=W:=fun W hW=>by
    have:=zpjZ B b _ W hW
    rwa [H0.o]at this
   have H2:=zh H3;clear hi hb hk hW hy Ha H4 hr hse H9 Hb H3 hyb Ho;by_cases hbig:65536<yb
   ·have Hh:(65536:Int)<(yb:Int):=(by omega);have He:=zh hbig;clear hbig;go_wp2_with (go_at_call 92;refine(H2.o _ HT.o.1).mono ?_;rintro e W3 ⟨rfl,rfl⟩);go_roundg (l.length-(m+1))
    case measure=>have:=HI.o;omega
    case rel=>refine⟨m+1,rfl,by simp,hlt,?_,HB.o.trans HT.o.2.2,HK.o.trans HT.o.2.1⟩;rw[H6.o];unfold Sx.put;rw[if_pos (by rw[H0.o];exact He.o)];exact HT.o.1
   ·have Hh:(yb:Int)<=(65536:Int):=(by omega);have He:=zh hbig;clear hbig;by_cases hz:yb=0
    ·subst hz;have hw:∀W,Wri B b ⟨y.b,y.n+1⟩ W->wr.heap.size<=W.heap.size->Calls Tryz.prog 94 #[.pointer (some ⟨b,0,none⟩),.string ⟨s.toArray⟩] W fun e w'=>(∃u,e=.returned u)/\Wri B b ⟨y.b++s,y.n+1⟩ w'/\Below B W w'/\KeepW W w':=fun W hW hWs=>zpkZ B b ⟨y.b,y.n+1⟩ s W hW Hd.o (by have:=H0.o;simp;omega) (by omega);have HW:=zh hw;clear hw;go_wp2_with (first
      | (go_at_call 92;refine(H2.o _ HT.o.1).mono ?_;rintro e W3 ⟨rfl,rfl⟩)
      | (go_at_call 94;refine(HW.o _ HT.o.1 (by rw[H1];exact ybZ _)).mono ?_;rintro e W3 ⟨⟨u,rfl⟩,hW3,H8,H7⟩))
     go_roundg (l.length-(m+1))
     case measure=>have:=HI.o;omega
     case rel=>refine⟨m+1,rfl,by simp,hlt,?_,(HB.o.trans HT.o.2.2).trans H8,(HK.o.trans HT.o.2.1).trans H7⟩;rw[H6.o];unfold Sx.put;rw[if_neg (by rw[H0.o];omega),if_neg (by rw[H0.o];omega)];exact hW3
    ·have Hv:(0:Int)<(yb:Int):=(by omega);have HZ:=zh hz;clear hz;have Hf:∀W,Wri B b ⟨y.b,y.n+1⟩ W->wr.heap.size<=W.heap.size->Calls Tryz.prog 93 #[.pointer (some ⟨b,0,none⟩),.int .u8 32] W fun e w'=>e=.returned .nilIface/\Wri B b ⟨y.b++[32],y.n+1⟩ w'/\Below B W w'/\KeepW W w':=fun W hW hWs=>zuvZ B b ⟨y.b,y.n+1⟩ 32 W hW (by have:=H0.o;simp;omega) (by omega);have hw:∀W,Wri B b ⟨y.b++[32],y.n+1⟩ W->wr.heap.size<=W.heap.size->Calls Tryz.prog 94 #[.pointer (some ⟨b,0,none⟩),.string ⟨s.toArray⟩] W fun e w'=>(∃u,e=.returned u)/\Wri B b ⟨y.b++[32]++s,y.n+1⟩ w'/\Below B W w'/\KeepW W w':=fun W hW hWs=>zpkZ B b ⟨y.b++[32],y.n+1⟩ s W hW Hd.o (by have:=H0.o;simp;omega) (by omega);have Hq:=zh Hf;have HW:=zh hw;clear hw Hf;go_wp2_with (first
      | (go_at_call 92;refine(H2.o _ HT.o.1).mono ?_;rintro e W3 ⟨rfl,rfl⟩)
      | (go_at_call 93;refine(Hq.o _ HT.o.1 (by rw[H1];exact ybZ _)).mono ?_;rintro e W4 ⟨rfl,hW4,H5,Hg⟩;have Hc:=H5.size;rw[H1]at Hc;have Hp:=zh H5;have Hi:=zh Hg;have Hj:=zh hW4;clear hW4 H5 Hg)
      | (go_at_call 94;refine(HW.o W4 Hj.o Hc).mono ?_;rintro e W3 ⟨⟨u,rfl⟩,hW3,H8,H7⟩))
     go_roundg (l.length-(m+1))
     case measure=>have:=HI.o;omega
     case rel=>refine⟨m+1,rfl,by simp,hlt,?_,((HB.o.trans HT.o.2.2).trans Hp.o).trans H8,((HK.o.trans HT.o.2.1).trans Hi.o).trans H7⟩;rw[H6.o];unfold Sx.put;rw[if_neg (by rw[H0.o];omega),if_pos (by rw[H0.o];have:=HZ.o;omega)];exact hW3
  ·have Hl:¬(m:Int)<(l.length:Int):=(by omega);rw[yjZ (by omega)]at hW;have HW:=zh hW;clear hW hi hb hk;go_wp2_with fail;go_end0;exact⟨rfl,HW.o,HB.o,HK.o⟩
theorem zuxZ (B b:Nat) (x:Sx.Wr) (r:Bool) (w:World) (h:Wri B b x w) (hx:x.b.length<=1000065537) (hn:x.n<=1000000000) :
  Calls Tryz.prog 60 #[.pointer (some ⟨b,0,none⟩),.bool r] w fun e w'=>
   e=.returned (.tuple #[.string ⟨(Sx.told r x).1.toArray⟩,.int .i64 ((Sx.told r x).2:Nat)])/\Below B w w':=by
 obtain⟨c2,f2,hbl,hB⟩:=h.cells;have H0:=zpjZ B b x w h;have H1:=zplZ B b x w h;obtain⟨k,hk⟩:=zE (x.b.length);obtain⟨n,hnn⟩:=zE (x.n);rw[hk]at H0;rw[hnn]at c2;have H6:(0:Int)<=(k:Int):=by omega
 have H8:(0:Int)<=(n:Int):=by omega
 have H5:(k:Int)<=1000065537:=by omega
 have H7:(n:Int)<=1000000000:=by omega
 have HL:=zh H0;have HS:=zh H1;have HK:=zh hk;have HN:=zh hnn;clear H0 H1 hk hnn hx hn h
 cases r with
 | false=>
  go_enter Tryz.func60, Tryz.ntmps60
  go_wp2_with fail
  refine ylZ (yDZ rfl _ _ _) rfl ?_;exact⟨rfl,yqZ _ _⟩
 | true=>
  by_cases hbig:65536<k
  ·have H2:(65536:Int)<(k:Int):=(by omega);have ht:Sx.told true x=([],2):=(by unfold Sx.told;rw[HK.o,if_pos hbig];rfl);rw[ht];clear ht;go_enter Tryz.func60, Tryz.ntmps60;go_wp2_with (go_at_call 92;refine HL.o.mono ?_;rintro e W3 ⟨rfl,rfl⟩);refine ylZ (yDZ rfl _ _ _) rfl ?_;exact⟨rfl,yqZ _ _⟩
  ·have H2:(k:Int)<=(65536:Int):=(by omega);by_cases hmany:4096<n
   ·have H4:(4096:Int)<(n:Int):=(by omega);have ht:Sx.told true x=([],3):=(by unfold Sx.told;rw[HK.o,HN.o,if_neg hbig,if_pos hmany];rfl);rw[ht];clear ht;go_enter Tryz.func60, Tryz.ntmps60;go_wp2_with (go_at_call 92;refine HL.o.mono ?_;rintro e W3 ⟨rfl,rfl⟩);refine ylZ (yDZ rfl _ _ _) rfl ?_;exact⟨rfl,yqZ _ _⟩
   ·have H4:(n:Int)<=(4096:Int):=(by omega);have ht:Sx.told true x=(x.b,0):=(by unfold Sx.told;rw[HK.o,HN.o,if_neg hbig,if_neg hmany];rfl);rw[ht];clear ht;go_enter Tryz.func60, Tryz.ntmps60;go_wp2_with (first
     | (go_at_call 92;refine HL.o.mono ?_;rintro e W3 ⟨rfl,rfl⟩)
     | (go_at_call 95;refine HS.o.mono ?_;rintro e W3 ⟨rfl,H3⟩))
    refine ylZ (yDZ rfl _ _ _) rfl ?_;exact⟨rfl,H3⟩
theorem Row.new (w:World) (l:List Lx.Bytes):Row (w.alloc (.cells (strsV l).toArray 9)) w.heap.size l:=ydZ w _
theorem Wri.grown {B b:Nat} {x:Sx.Wr} {w w':World} (h:Wri B b x w) (hg:w.grownBy w' none):Wri B b x w':=by
 obtain⟨hB,p,v,hb,hp,ho,hx⟩:=h;exact⟨hB,p,v,(hg.block b (zaZ hb) (fun e=>nomatch e)).trans hb,hp,World.ownsRow.kept ho hg (by cases v.ownBlock <;> simp),hx⟩
structure Wrote (W0:World) (b c:Nat) (l:List Lx.Bytes) (w:World):Prop where
 wri:Wri W0.heap.size b (Sx.puts ⟨[],0⟩ l) w
 below:Below W0.heap.size W0 w
 good:∀s∈l,s.length<=1000000000
 cnt:l.length<=c
theorem Wrote.grown {W0 w w':World} {b c:Nat} {l:List Lx.Bytes} (h:Wrote W0 b c l w) (hg:w.grownBy w' none):Wrote W0 b c l w':=
 ⟨h.wri.grown hg,h.below.grown hg h.below.size (fun j e=>nomatch e),h.good,h.cnt⟩
theorem Wrote.lt {W0 w:World} {b c:Nat} {l:List Lx.Bytes} (h:Wrote W0 b c l w):b<w.heap.size:=h.wri.cells.2.2.1
theorem Wrote.mono {W0 w:World} {b c d:Nat} {l:List Lx.Bytes} (h:Wrote W0 b c l w) (hd:c<=d):Wrote W0 b d l w:=⟨h.wri,h.below,h.good,ymZ h.cnt hd⟩
theorem Wrote.cast {W0 w:World} {b c:Nat} {l m:List Lx.Bytes} (h:Wrote W0 b c l w) (e:l=m):Wrote W0 b c m w:=e▸h
theorem KeepW.alloc (w:World) (o:Obj):KeepW w (w.alloc o):=KeepW.grown (yeZ w o none) (fun j e=>nomatch e)
theorem zpmZ {W0 w:World} {b c:Nat} {l m:List Lx.Bytes} (h:Wrote W0 b c l w) (hs:∀s∈m,s≠[]/\s.length<=1000000000) (hn:c+m.length<=1000000000) :
  Calls Tryz.prog 100 #[.pointer (some ⟨b,0,none⟩),.slice (some ⟨w.heap.size,0,none⟩) m.length m.length] (w.alloc (.cells (strsV m).toArray 9)) fun e w'=>
   e=.returned (.tuple #[])/\Wrote W0 b (c+m.length) (l++m) w'/\KeepW w w':=by
 have hg:w.grownBy (w.alloc (.cells (strsV m).toArray 9)) none:=yeZ w _ none;have hc:=h.cnt;refine(zwpZ W0.heap.size b w.heap.size m (Sx.puts ⟨[],0⟩ l) _ (h.wri.grown hg) (Row.new w m) hs (Sx.puts_len l _ (by simp) h.good) (by rw[Sx.puts_n];simp;omega) (ymZ h.below.size hg.size)).mono ?_;rintro e w' ⟨he,h1,h2,h3⟩;refine⟨he,⟨?_,(h.below.grown hg h.below.size (fun j e=>nomatch e)).trans h2,?_,?_⟩,(KeepW.grown hg (fun j e=>nomatch e)).trans h3⟩
 ·rw[Sx.puts_append];exact h1
 ·intro s hm;rcases yfbZ.1 hm with h' | h'
  ·exact h.good s h'
  ·exact(hs s h').2
 ·rw[ycZ];omega
theorem put1 {W0 w:World} {b c:Nat} {l:List Lx.Bytes} {s:Lx.Bytes} (h:Wrote W0 b c l w) (hs:s≠[]/\s.length<=1000000000) (hn:c+1<=1000000000) :
  Calls Tryz.prog 100 #[.pointer (some ⟨b,0,none⟩),.slice (some ⟨w.heap.size,0,none⟩) 1 1] (w.alloc (.cells #[.string ⟨s.toArray⟩] 9)) fun e w'=>
   e=.returned (.tuple #[])/\Wrote W0 b (c+1) (l++[s]) w'/\KeepW w w':=
 zpmZ (m:=[s]) h (by simpa using hs) hn
theorem put2 {W0 w:World} {b c:Nat} {l:List Lx.Bytes} {s t:Lx.Bytes} (h:Wrote W0 b c l w) (hs:s≠[]/\s.length<=1000000000) (ht:t≠[]/\t.length<=1000000000) (hn:c+2<=1000000000) :
  Calls Tryz.prog 100 #[.pointer (some ⟨b,0,none⟩),.slice (some ⟨w.heap.size,0,none⟩) 2 2] (w.alloc (.cells #[.string ⟨s.toArray⟩,.string ⟨t.toArray⟩] 9)) fun e w'=>
   e=.returned (.tuple #[])/\Wrote W0 b (c+2) (l++[s,t]) w'/\KeepW w w':=
 zpmZ (m:=[s,t]) h (by simpa using⟨hs,ht⟩) hn
theorem zezZ {W0 w:World} {b c:Nat} {l:List Lx.Bytes} (i:Nat) (h:Wrote W0 b c l w) (hi:i<=1000000000) (hn:c+1<=1000000000) :
  Calls Tryz.prog 131 #[.pointer (some ⟨b,0,none⟩),.int .i64 (i:Nat)] w fun e w'=>
   e=.returned (.tuple #[])/\Wrote W0 b (c+1) (l++(if 0<i then [[44]]else [])) w'/\KeepW w w':=by
 have H:=zh h;clear h;have H1:=H.o.lt;by_cases h0:i=0
 ·subst h0;go_enter Tryz.func131, Tryz.ntmps131;go_wp2_with fail;go_end0
  exact⟨rfl,by simpa using H.o.mono (Nat.le_succ _),KeepW.refl _⟩
 ·have H0:(0:Int)<(i:Int):=(by omega);rw[if_pos (by omega)];go_enter Tryz.func131, Tryz.ntmps131;go_wp2_with (go_at_call 100;refine(put1 (s:=[44]) H.o ⟨by simp,by simp⟩ hn).mono ?_;rintro e w' ⟨rfl,h1,h2⟩);go_end0
  exact⟨rfl,h1,h2⟩
def Cells5 (W:World) (g j:Nat) (kd:Int) (nm:Lx.Bytes) (vn ve vp:Value):Prop:=
 g<W.heap.size/\W.cell? ⟨g,j,none⟩=some (.int .i64 kd)/\W.cell? ⟨g,j+1,none⟩=some (.string ⟨nm.toArray⟩)/\W.cell? ⟨g,j+2,none⟩=some vn/\W.cell? ⟨g,j+3,none⟩=some ve/\W.cell? ⟨g,j+4,none⟩=some vp
theorem TyRow.spot {W0:World} {Ap:Option Addr} {k cp:Nat} {l:List Sx.Ty} (h:TyRow W0 (.slice Ap k cp) l) (m:Nat) (hm:m<l.length) :
  ∃g off An cn Ae ce Aq cq,Ap=some ⟨g,off,none⟩/\
   IsTy W0 (.agg #[.int .i64 (l[m]'hm).kind,.string ⟨(l[m]'hm).name.toArray⟩,.slice An (l[m]'hm).names.length cn,.slice Ae (l[m]'hm).embeds.length ce,.slice Aq (l[m]'hm).parts.length cq]) (l[m]'hm)/\
   ∀W,Below W0.heap.size W0 W->Cells5 W g (off+m * 5) (l[m]'hm).kind (l[m]'hm).name (.slice An (l[m]'hm).names.length cn) (.slice Ae (l[m]'hm).embeds.length ce) (.slice Aq (l[m]'hm).parts.length cq):=by
 obtain⟨A,c,hv,-,hl⟩:=h;injection hv with h1 _ _;subst h1;obtain⟨g,off,v0,v1,v2,v3,v4,rfl,c0,c1,c2,c3,c4,ht⟩:=IsTys.at hl m hm;obtain⟨vn,ve,vp,hagg,hsn,hse,hsp⟩:=ht.limbs;obtain⟨An,cn,hvn,-⟩:=id hsn;obtain⟨Ae,ce,hve,-⟩:=id hse;obtain⟨Aq,cq,hvp,-,-⟩:=id hsp;subst hvn hve hvp;injection hagg with hagg;simp only[ykbZ,ygbZ,ymbZ]at hagg;obtain⟨rfl,rfl,rfl,rfl,rfl⟩:=hagg;rw[yGZ]at c0 c1 c2 c3 c4;have hg:=World.block_lt_of_cell? W0 ⟨g,_,none⟩ c0;refine⟨g,off,An,cn,Ae,ce,Aq,cq,rfl,ht,fun W hb=>?_⟩;have up:∀ {j:Nat} {u:Value},W0.cell? ⟨g,j,none⟩=some u->W.cell? ⟨g,j,none⟩=some u:=fun {j u} hj=>(World.cell?_of_block (hb.block g hg)).trans hj;exact⟨yJZ hg hb.size,up c0,up c1,up c2,up c3,up c4⟩
theorem StrRow.cellAt {W0 W:World} {A:Option Addr} {k c:Nat} {l:List Lx.Bytes} (h:StrRow W0 (.slice A k c) l) (hb:Below W0.heap.size W0 W) (m:Nat) (hm:m<l.length) :
  ∃g off,A=some ⟨g,off,none⟩/\g<W.heap.size/\W.cell? ⟨g,off+m,none⟩=some (.string ⟨(l[m]'hm).toArray⟩):=by
 obtain⟨A',c',hv,hl⟩:=h;injection hv with h1 _ _;subst h1;obtain⟨g,off,rfl,hc⟩:=hl m hm;have hg:=World.block_lt_of_cell? W0 ⟨g,_,none⟩ hc;exact⟨g,off,rfl,yJZ hg hb.size,(World.cell?_of_block (hb.block g hg)).trans hc⟩
theorem BoolRow.cellAt {W0 W:World} {A:Option Addr} {k c:Nat} {l:List Bool} (h:BoolRow W0 (.slice A k c) l) (hb:Below W0.heap.size W0 W) (m:Nat) (hm:m<l.length) :
  ∃g off,A=some ⟨g,off,none⟩/\g<W.heap.size/\W.cell? ⟨g,off+m,none⟩=some (.bool (l[m]'hm)):=by
 obtain⟨A',c',hv,hl⟩:=h;injection hv with h1 _ _;subst h1;obtain⟨g,off,rfl,hc⟩:=hl m hm;have hg:=World.block_lt_of_cell? W0 ⟨g,_,none⟩ hc;exact⟨g,off,rfl,yJZ hg hb.size,(World.cell?_of_block (hb.block g hg)).trans hc⟩
theorem IsTy.agg {W:World} {v:Value} {t:Sx.Ty} (h:IsTy W v t):∃An cn Ae ce Ap cp,v=.agg #[.int .i64 t.kind,.string ⟨t.name.toArray⟩,.slice An t.names.length cn,.slice Ae t.embeds.length ce,.slice Ap t.parts.length cp]/\
  StrRow W (.slice An t.names.length cn) t.names/\BoolRow W (.slice Ae t.embeds.length ce) t.embeds/\TyRow W (.slice Ap t.parts.length cp) t.parts:=by
 obtain⟨vn,ve,vp,hagg,hsn,hse,hsp⟩:=h.limbs;obtain⟨An,cn,hvn,-⟩:=id hsn;obtain⟨Ae,ce,hve,-⟩:=id hse;obtain⟨Ap,cp,hvp,-,-⟩:=id hsp;subst hvn hve hvp;exact⟨An,cn,Ae,ce,Ap,cp,hagg,hsn,hse,hsp⟩
/-! ### the tokens up to a part -/
def Sx.parL:Nat->List Sx.Ty->List Lx.Bytes
 | _,[]=>[]
 | i,t::l=>(if 0<i then [[44]]else [])++Sx.typ t++Sx.parL (i+1) l
theorem Sx.parL_append:∀(l m:List Sx.Ty) (i:Nat),Sx.parL i (l++m)=Sx.parL i l++Sx.parL (i+l.length) m
 | [],m,i=>by simp[Sx.parL]
 | t::l,m,i=>by rw[yHZ,Sx.parL,Sx.parL,Sx.parL_append l m (i+1)];rw[yhZ,show i+1+l.length=i+(l.length+1)by omega];simp[yiZ]
theorem Sx.params_eq:∀(l:List Sx.Ty) (t:Sx.Ty) (i:Nat),Sx.params i (l++[t])=Sx.parL i l++[[41]]++Sx.typ t
 | [],t,i=>by simp[Sx.params,Sx.parL]
 | u::l,t,i=>by rw[yHZ,Sx.params,Sx.parL,Sx.params_eq l t (i+1)];rw[if_neg (by simp)];simp[yiZ]
theorem Sx.parL_take {l:List Sx.Ty} {m:Nat} (h:m<l.length):Sx.parL 0 (l.take (m+1))=Sx.parL 0 (l.take m)++(if 0<m then [[44]]else [])++Sx.typ l[m]:=by
 rw[ykZ h,Sx.parL_append,yGZ,yUZ,Nat.min_eq_left (by omega)];simp[Sx.parL,yiZ]
theorem Sx.sig_eq (t:Sx.Ty):Sx.signature t=[[40]]++Sx.params 0 t.parts:=by cases t;rw[Sx.signature];rfl
def TypOk (N:Sx.Names) (W0:World) (b:Nat) (t:Sx.Ty):Prop:=∀(d:Nat) (v:Value) (c:Nat) (l:List Lx.Bytes) (w:World),Sx.rightT N d t=true->IsTy W0 v t->Wrote W0 b c l w->c+10 * Sx.size t<=1000000000->
 Calls Tryz.prog 59 #[.pointer (some ⟨b,0,none⟩),v] w fun e w'=>e=.returned (.tuple #[])/\Wrote W0 b (c+(10 * Sx.size t-6)) (l++Sx.typ t) w'/\KeepW w w'
def SigOk (N:Sx.Names) (W0:World) (b:Nat) (t:Sx.Ty):Prop:=∀(d:Nat) (v:Value) (c:Nat) (l:List Lx.Bytes) (w:World),(∀p∈t.parts,Sx.rightT N d p=true)->t.parts≠[]->IsTy W0 v t->Wrote W0 b c l w->c+10 * Sx.size t<=1000000001->
 Calls Tryz.prog 109 #[.pointer (some ⟨b,0,none⟩),v] w fun e w'=>e=.returned (.tuple #[])/\Wrote W0 b (c+(10 * Sx.size t-7)) (l++Sx.signature t) w'/\KeepW w w'
theorem zwqZ (N:Sx.Names) (W0:World) (b:Nat) (t:Sx.Ty) (ih:∀p∈t.parts,TypOk N W0 b p):SigOk N W0 b t:=by
 intro d v c l w hr Hu ht h hc;obtain⟨An,cn,Ae,ce,Ap,cp,rfl,-,-,hp⟩:=ht.agg;obtain⟨k,hk⟩:∃k,t.parts.length=k+1:=⟨t.parts.length-1,by have:=List.length_pos_iff.2 Hu;omega⟩;have Hr:=Sx.size_parts t;have Hf:=Sx.length_size t.parts;have Jg:c+9<=1000000000:=by omega
 have Jd:(k:Int)<=1000000000:=by omega
 have Jh:(0:Int)<=(k:Int):=by omega
 rw[hk]at hp ⊢;have Jl:(k:Int)<=(cp:Int):=by obtain⟨A',c',e1,e2,-⟩:=hp;injection e1 with _ _ e1;omega
 have HP:=zh hp;have HK:=zh hk;have HR:=zh hr;have J6:=zh Hr;have Hs:=zh ih;obtain⟨L,hL⟩:=zE (w.heap.size);obtain⟨w2,hw2⟩:=zE (w.alloc (.cells #[.int .i64 t.kind,.string ⟨t.name.toArray⟩,.slice An t.names.length cn,.slice Ae t.embeds.length ce,.slice Ap (k+1) cp] 26));have H8:w2.heap[L]? =some (.cells #[.int .i64 t.kind,.string ⟨t.name.toArray⟩,.slice An t.names.length cn,.slice Ae t.embeds.length ce,.slice Ap (k+1) cp] 26 (0,0)):=by rw[<-hw2,<-hL];exact ydZ w _
 have hW2:Wrote W0 b c l w2:=by rw[<-hw2];exact h.grown (yeZ w _ none)
 have J4:=zh (show KeepW w w2 by rw[<-hw2];exact KeepW.alloc w _);have Jb:=zh H8;have Hx:=zh hW2;obtain⟨x0,x1,x2,x3,x4⟩:=zcZ H8;have Jf:=zaZ H8;have Je:=hW2.lt;clear hr Hu ht hp hk Hr Hf ih hW2 H8 h;go_enter Tryz.func109, Tryz.ntmps109;go_wp2_with (go_at_call 100;refine(put1 (s:=[40]) Hx.o ⟨by simp,by simp⟩ (by omega)).mono ?_;rintro e w3 ⟨rfl,hW3,Hq⟩;have H1:=Hq _ _ _ _ Jb.o (by decide) (by decide);have Hl:=zh (J4.o.trans Hq);have Hk:=zh hW3;clear x0 x1 x2 x3 x4 Hq hW3;obtain⟨x0,x1,x2,x3,x4⟩:=zcZ H1;have Jj:=zaZ H1;have Hc:=zh H1;clear H1;have J7:=Hk.o.lt);have H3:=zh (show Wrote W0 b (c+1+10 * Sx.sizeL (t.parts.take 0)) (l++[[40]]++Sx.parL 0 (t.parts.take 0)) w3 from(Hk.o.mono (by omega)).cast (by simp[Sx.parL]));clear x0 x1 x2 x3 x4;go_loopg [21] k (fun i v wr=>∃(m:Nat),i=k-m/\v=.int .i64 (m:Int)/\m<=k/\Wrote W0 b (c+1+10 * Sx.sizeL (t.parts.take m)) (l++[[40]]++Sx.parL 0 (t.parts.take m)) wr/\KeepW w3 wr)
 case atStart=>exact⟨0,rfl,rfl,yxZ _,H3.o,KeepW.refl _⟩
 case round=>
  obtain⟨m,hi,rfl,hm,hW,hkw⟩:=hrel;have HI:=zh hi;have Hp:=zh hW;have m0:(0:Int)<=(m:Int):=(by omega);have H9:=hkw _ _ _ _ Hc.o (by decide) (by decide);have J9:=zh (Hl.o.trans hkw);have Ja:=zh hkw;have Ht:=zh H9;have J8:=hW.lt;have Ji:=zaZ H9;have hSL:=Sx.sizeL_take_le t.parts (m+1);have hSZ:1+Sx.sizeL t.parts<=Sx.size t:=(by have:=J6.o;omega);clear hi hW hkw H3 Hk Hc;by_cases hlt:m<k
  ·have J3:(m:Int)<(k:Int):=(by omega);have H2:m<t.parts.length:=(by have:=HK.o;omega);obtain⟨g,off,An1,cn1,Ae1,ce1,Aq,cq,rfl,hty,hc5⟩:=HP.o.spot m H2;obtain⟨hg,c0,c1,c2,c3,c4⟩:=hc5 wr Hp.o.below;clear hc5;have H7:=Sx.size_take H2;have Hi:=Sx.parL_take H2;obtain⟨p,hpe⟩:=zE (t.parts[m]'H2);have H6:p∈t.parts:=(by rw[<-hpe];exact yfZ H2);rw[hpe]at c0 c1 c2 c3 c4 hty H7 Hi;have Hh:=Sx.size_pos p;have He:=zh hty;have Hw:=zh Hi;have H4:=zh H6;obtain⟨sp,hsp⟩:=zE (Sx.size p);obtain⟨sm,hsm⟩:=zE (Sx.sizeL (t.parts.take m));rw[hsp,hsm]at H7;rw[H7]at hSL;rw[hsp]at Hh;have Hb:=zh hsp;have Jc:=zh hsm;have Hy:=zh H7;have Ho:c+2+10 * (sm+sp)<=1000000000:=(by omega);obtain⟨L4,hL4⟩:=zE (wr.heap.size);obtain⟨w4,hw4⟩:=zE (wr.alloc (.cells #[.int .i64 p.kind,.string ⟨p.name.toArray⟩,.slice An1 p.names.length cn1,.slice Ae1 p.embeds.length ce1,.slice Aq p.parts.length cq] 26));have H5:w4.heap[L4]? =some (.cells #[.int .i64 p.kind,.string ⟨p.name.toArray⟩,.slice An1 p.names.length cn1,.slice Ae1 p.embeds.length ce1,.slice Aq p.parts.length cq] 26 (0,0)):=(by rw[<-hw4,<-hL4];exact ydZ wr _);have Hj:=zh H5;have Hz:=zh (show Wrote W0 b (c+1+10 * sm) (l++[[40]]++Sx.parL 0 (t.parts.take m)) w4 by rw[<-hw4,<-Jc.o];exact Hp.o.grown (yeZ wr _ none));have J0:=zh (show KeepW wr w4 by rw[<-hw4];exact KeepW.alloc wr _);have Jk:L4<w4.heap.size:=zaZ H5;clear hty Hi H6 hpe hsp hsm H7 H5;go_wp2_with (first
    | (go_at_call 131;refine(zezZ m Hz.o (by omega) (by omega)).mono ?_;rintro e w5 ⟨rfl,hW5,Ha⟩;have H0:=Ha _ _ _ _ Hj.o (by decide) (by decide);obtain⟨y0,y1,y2,y3,y4⟩:=zcZ H0;have J2:=zaZ H0;have Hd:=zh hW5;have Hm:=zh Ha;clear H0 hW5 Ha)
    | (go_at_call 59;refine(Hs.o p H4.o d _ _ _ w5 (HR.o p H4.o) He.o Hd.o (by rw[Hb.o];omega)).mono ?_;rintro e w6 ⟨rfl,hW6,Hn⟩))
   go_roundg (k-(m+1))
   case measure=>have:=HI.o;omega
   case rel=>
    refine⟨m+1,rfl,by simp,hlt,(hW6.mono ?_).cast ?_,((Ja.o.trans J0.o).trans Hm.o).trans Hn⟩
    ·rw[Hy.o,Hb.o];omega
    ·rw[Hw.o];simp[yiZ]
  ·have J3:¬(m:Int)<(k:Int):=(by omega);obtain rfl:m=k:=(by omega);have H2:m<t.parts.length:=(by have:=HK.o;omega);obtain⟨g,off,An1,cn1,Ae1,ce1,Aq,cq,rfl,hty,hc5⟩:=HP.o.spot m H2;have H7:=Sx.size_take H2;have Hg:Sx.signature t=[[40]]++Sx.parL 0 (t.parts.take m)++[[41]]++Sx.typ (t.parts[m]'H2):=by
    rw[Sx.sig_eq]
    conv=>lhs;rw[show t.parts=t.parts.take m++[t.parts[m]'H2]by rw[<-ykZ H2,yjZ (by have:=HK.o;omega)]]
    rw[Sx.params_eq];simp[yiZ]
   obtain⟨p,hpe⟩:=zE (t.parts[m]'H2);have H6:p∈t.parts:=(by rw[<-hpe];exact yfZ H2);rw[hpe]at hc5 hty H7 Hg;have Hv:=zh hc5;have Hh:=Sx.size_pos p;have He:=zh hty;have J5:=zh Hg;have H4:=zh H6;obtain⟨sp,hsp⟩:=zE (Sx.size p);obtain⟨sm,hsm⟩:=zE (Sx.sizeL (t.parts.take m));rw[hsp,hsm]at H7;rw[H7]at hSL;rw[hsp]at Hh;have Hb:=zh hsp;have J1:=zh (show Wrote W0 b (c+1+10 * sm) (l++[[40]]++Sx.parL 0 (t.parts.take m)) wr by rw[<-hsm];exact Hp.o);have Ho:c+2+10 * (sm+sp)<=1000000000:=(by omega);obtain⟨x0,x1,x2,x3,x4⟩:=zcZ Ht.o;clear hc5 hty Hg H6 hpe hsp hsm H7;go_wp2_with (first
    | (go_at_call 100;refine(put1 (s:=[41]) J1.o ⟨by simp,by simp⟩ (by omega)).mono ?_;rintro e w5 ⟨rfl,hW5,Ha⟩;have H0:=Ha _ _ _ _ Ht.o (by decide) (by decide);clear x0 x1 x2 x3 x4;obtain⟨y0,y1,y2,y3,y4⟩:=zcZ H0;have J2:=zaZ H0;have Hd:=zh hW5;have Hm:=zh Ha;clear H0 hW5 Ha;obtain⟨hg5,d0,d1,d2,d3,d4⟩:=Hv.o w5 Hd.o.below)
    | (go_at_call 59;refine(Hs.o p H4.o d _ _ _ w5 (HR.o p H4.o) He.o Hd.o (by rw[Hb.o];omega)).mono ?_;rintro e w6 ⟨rfl,hW6,Hn⟩))
   go_end0
   refine⟨rfl,(hW6.mono ?_).cast ?_,(J9.o.trans Hm.o).trans Hn⟩
   ·rw[Hb.o];omega
   ·rw[J5.o];simp[yiZ]
theorem Sx.rights_mem {N:Sx.Names} {d:Nat} : ∀ {l:List Sx.Ty},Sx.rightTs N d l=true->∀p∈l,Sx.rightT N d p=true
 | [],_,p,h=>by cases h
 | t::l,hr,p,h=>by
  rw[Sx.rightTs,ygZ]at hr;rcases yTZ.1 h with rfl | h
  ·exact hr.1
  ·exact Sx.rights_mem hr.2 p h
theorem Sx.right_parts {N:Sx.Names} {d:Nat} {t:Sx.Ty} (h:Sx.rightT N d t=true):∃e,d=e+1/\(∀p∈t.parts,Sx.rightT N e p=true)/\Sx.shape N t.kind t.name t.names t.embeds t.parts=true:=by
 cases t with
 | mk k n ns es ps=>
  cases d with
  | zero=>simp[Sx.rightT]at h
  | succ e=>rw[Sx.rightT,ygZ]at h;exact⟨e,rfl,Sx.rights_mem h.1,h.2⟩
structure Sx.NamesOk (N:Sx.Names):Prop where
 small:∀s,N.small s=true->s≠[]
 great:∀s,N.great s=true->s≠[]
theorem Sx.apart_small {N:Sx.Names} : ∀ {l:List Lx.Bytes},Sx.apart N l=true->∀s∈l,N.small s=true
 | [],_,s,h=>by cases h
 | x::l,hr,s,h=>by
  rw[Sx.apart,ygZ,ygZ]at hr;rcases yTZ.1 h with rfl | h
  ·exact hr.1
  ·exact Sx.apart_small hr.2.2 s h
theorem Sx.typ_eq (t:Sx.Ty):Sx.typ t=(if t.kind=1 then [[105,110,116]]
  else if t.kind=2 then [[98,111,111,108]]
  else if t.kind=3 then [[116,101,120,116]]
  else if t.kind=4 then [t.name]
  else if t.kind=5 then [42]::Sx.typL t.parts
  else if t.kind=6 then [[123]]++Sx.fields t.names t.embeds t.parts++[[125]]
  else if t.kind=7 then [[102,110]]++([[40]]++Sx.params 0 t.parts)
  else if t.kind=8 then [[105,110,116,101,114,102,97,99,101],[123]]++Sx.methods t.names t.parts++[[125]]
  else []):=by cases t;rw[Sx.typ];rfl
theorem Sx.typL_head:∀ {l:List Sx.Ty} (h:0<l.length),Sx.typL l=Sx.typ (l[0]'h)
 | t::l,h=>by rw[Sx.typL];rfl
theorem Wrote.drew {W0 w:World} {b c:Nat} {l:List Lx.Bytes} (h:Wrote W0 b c l w):Wrote W0 b c l w.drew:=h.grown ⟨rfl,rfl,rfl,ybZ _,fun _ _ _=>rfl⟩
theorem zuyZ (N:Sx.Names) (hN:Sx.NamesOk N) (W0:World) (b:Nat) (t:Sx.Ty) (hkd:t.kind=1):TypOk N W0 b t:=by
 intro d v c l w hr ht h hc;obtain⟨An,cn,Ae,ce,Ap,cp,rfl,hnm,hem,hp⟩:=ht.agg;obtain⟨d',rfl,hr',hsh⟩:=Sx.right_parts hr;rw[hkd]at hsh ht ⊢;have H1:=Sx.size_parts t;have H9:c+10<=1000000000:=by omega
 have HT:=zh (show Sx.typ t=[[105,110,116]]by rw[Sx.typ_eq,hkd];simp);have H5:=zh H1;obtain⟨L,hL⟩:=zE (w.heap.size);obtain⟨w2,hw2⟩:=zE (w.alloc (.cells #[.int .i64 1,.string ⟨t.name.toArray⟩,.slice An t.names.length cn,.slice Ae t.embeds.length ce,.slice Ap t.parts.length cp] 26));have H0:w2.heap[L]? =some (.cells #[.int .i64 1,.string ⟨t.name.toArray⟩,.slice An t.names.length cn,.slice Ae t.embeds.length ce,.slice Ap t.parts.length cp] 26 (0,0)):=by rw[<-hw2,<-hL];exact ydZ w _
 have hW2:Wrote W0 b c l w2:=by rw[<-hw2];exact h.grown (yeZ w _ none)
 have H3:=zh (show KeepW w w2 by rw[<-hw2];exact KeepW.alloc w _);have H2:=zh hW2;obtain⟨x0,x1,x2,x3,x4⟩:=zcZ H0;have H8:=zaZ H0;have H7:=hW2.lt;clear hr hr' ht hp hnm hem H1 hW2 H0 h hsh hkd;go_enter Tryz.func59, Tryz.ntmps59;go_wp2_with (go_at_call 100;refine(put1 (s:=[105,110,116]) H2.o ⟨by simp,by simp⟩ (by omega)).mono ?_;rintro e w3 ⟨rfl,hW3,H4⟩);go_end0
 exact⟨rfl,(hW3.mono (by have:=H5.o;omega)).cast (by rw[HT.o]),H3.o.trans H4⟩
theorem zuzZ (N:Sx.Names) (hN:Sx.NamesOk N) (W0:World) (b:Nat) (t:Sx.Ty) (hkd:t.kind=2):TypOk N W0 b t:=by
 intro d v c l w hr ht h hc;obtain⟨An,cn,Ae,ce,Ap,cp,rfl,hnm,hem,hp⟩:=ht.agg;obtain⟨d',rfl,hr',hsh⟩:=Sx.right_parts hr;rw[hkd]at hsh ht ⊢;have H1:=Sx.size_parts t;have H9:c+10<=1000000000:=by omega
 have HT:=zh (show Sx.typ t=[[98,111,111,108]]by rw[Sx.typ_eq,hkd];simp);have H5:=zh H1;obtain⟨L,hL⟩:=zE (w.heap.size);obtain⟨w2,hw2⟩:=zE (w.alloc (.cells #[.int .i64 2,.string ⟨t.name.toArray⟩,.slice An t.names.length cn,.slice Ae t.embeds.length ce,.slice Ap t.parts.length cp] 26));have H0:w2.heap[L]? =some (.cells #[.int .i64 2,.string ⟨t.name.toArray⟩,.slice An t.names.length cn,.slice Ae t.embeds.length ce,.slice Ap t.parts.length cp] 26 (0,0)):=by rw[<-hw2,<-hL];exact ydZ w _
 have hW2:Wrote W0 b c l w2:=by rw[<-hw2];exact h.grown (yeZ w _ none)
 have H3:=zh (show KeepW w w2 by rw[<-hw2];exact KeepW.alloc w _);have H2:=zh hW2;obtain⟨x0,x1,x2,x3,x4⟩:=zcZ H0;have H8:=zaZ H0;have H7:=hW2.lt;clear hr hr' ht hp hnm hem H1 hW2 H0 h hsh hkd;go_enter Tryz.func59, Tryz.ntmps59;go_wp2_with (go_at_call 100;refine(put1 (s:=[98,111,111,108]) H2.o ⟨by simp,by simp⟩ (by omega)).mono ?_;rintro e w3 ⟨rfl,hW3,H4⟩);go_end0
 exact⟨rfl,(hW3.mono (by have:=H5.o;omega)).cast (by rw[HT.o]),H3.o.trans H4⟩
theorem zvaZ (N:Sx.Names) (hN:Sx.NamesOk N) (W0:World) (b:Nat) (t:Sx.Ty) (hkd:t.kind=3):TypOk N W0 b t:=by
 intro d v c l w hr ht h hc;obtain⟨An,cn,Ae,ce,Ap,cp,rfl,hnm,hem,hp⟩:=ht.agg;obtain⟨d',rfl,hr',hsh⟩:=Sx.right_parts hr;rw[hkd]at hsh ht ⊢;have H1:=Sx.size_parts t;have H9:c+10<=1000000000:=by omega
 have HT:=zh (show Sx.typ t=[[116,101,120,116]]by rw[Sx.typ_eq,hkd];simp);have H5:=zh H1;obtain⟨L,hL⟩:=zE (w.heap.size);obtain⟨w2,hw2⟩:=zE (w.alloc (.cells #[.int .i64 3,.string ⟨t.name.toArray⟩,.slice An t.names.length cn,.slice Ae t.embeds.length ce,.slice Ap t.parts.length cp] 26));have H0:w2.heap[L]? =some (.cells #[.int .i64 3,.string ⟨t.name.toArray⟩,.slice An t.names.length cn,.slice Ae t.embeds.length ce,.slice Ap t.parts.length cp] 26 (0,0)):=by rw[<-hw2,<-hL];exact ydZ w _
 have hW2:Wrote W0 b c l w2:=by rw[<-hw2];exact h.grown (yeZ w _ none)
 have H3:=zh (show KeepW w w2 by rw[<-hw2];exact KeepW.alloc w _);have H2:=zh hW2;obtain⟨x0,x1,x2,x3,x4⟩:=zcZ H0;have H8:=zaZ H0;have H7:=hW2.lt;clear hr hr' ht hp hnm hem H1 hW2 H0 h hsh hkd;go_enter Tryz.func59, Tryz.ntmps59;go_wp2_with (go_at_call 100;refine(put1 (s:=[116,101,120,116]) H2.o ⟨by simp,by simp⟩ (by omega)).mono ?_;rintro e w3 ⟨rfl,hW3,H4⟩);go_end0
 exact⟨rfl,(hW3.mono (by have:=H5.o;omega)).cast (by rw[HT.o]),H3.o.trans H4⟩
theorem zvbZ (N:Sx.Names) (hN:Sx.NamesOk N) (W0:World) (b:Nat) (t:Sx.Ty) (hkd:t.kind=4):TypOk N W0 b t:=by
 intro d v c l w hr ht h hc;obtain⟨An,cn,Ae,ce,Ap,cp,rfl,hnm,hem,hp⟩:=ht.agg;obtain⟨d',rfl,hr',hsh⟩:=Sx.right_parts hr;rw[hkd]at hsh ht ⊢;have H1:=Sx.size_parts t;have Hd:c+10<=1000000000:=by omega
 have HT:=zh (show Sx.typ t=[t.name]by rw[Sx.typ_eq,hkd];simp);have hg:N.great t.name=true:=by simp[Sx.shape]at hsh;exact hsh.1.1.1
 have H7:=zh (hN.great _ hg);have H8:t.name.length<=1000000000:=by omega
 clear hg;have H4:=zh H1;obtain⟨L,hL⟩:=zE (w.heap.size);obtain⟨w2,hw2⟩:=zE (w.alloc (.cells #[.int .i64 4,.string ⟨t.name.toArray⟩,.slice An t.names.length cn,.slice Ae t.embeds.length ce,.slice Ap t.parts.length cp] 26));have H0:w2.heap[L]? =some (.cells #[.int .i64 4,.string ⟨t.name.toArray⟩,.slice An t.names.length cn,.slice Ae t.embeds.length ce,.slice Ap t.parts.length cp] 26 (0,0)):=by rw[<-hw2,<-hL];exact ydZ w _
 have hW2:Wrote W0 b c l w2:=by rw[<-hw2];exact h.grown (yeZ w _ none)
 have H3:=zh (show KeepW w w2 by rw[<-hw2];exact KeepW.alloc w _);have H2:=zh hW2;obtain⟨x0,x1,x2,x3,x4⟩:=zcZ H0;have Hc:=zaZ H0;have Hb:=hW2.lt;clear hr hr' ht hp hnm hem H1 hW2 H0 h hsh hkd;go_enter Tryz.func59, Tryz.ntmps59;go_wp2_with fail;have H5:=zh H2.o.drew;have H6:=zh (H3.o.trans (KeepW.drew w2))
 go_region_with (go_at_call 100;refine(put1 (s:=t.name) H5.o ⟨H7.o,H8⟩ (by omega)).mono ?_;rintro e w4 ⟨rfl,hW4,H9⟩)
 go_end0
 exact⟨rfl,(hW4.mono (by have:=H4.o;omega)).cast (by rw[HT.o]),H6.o.trans H9⟩
theorem zvcZ (N:Sx.Names) (hN:Sx.NamesOk N) (W0:World) (b:Nat) (t:Sx.Ty) (ih:∀p∈t.parts,TypOk N W0 b p) (hkd:t.kind=5):TypOk N W0 b t:=by
 intro d v c l w hr ht h hc;obtain⟨An,cn,Ae,ce,Ap,cp,rfl,hnm,hem,hp⟩:=ht.agg;obtain⟨d',rfl,hr',hsh⟩:=Sx.right_parts hr;rw[hkd]at hsh ht ⊢;have H6:=Sx.size_parts t;have Ho:c+10<=1000000000:=by omega
 have H2:0<t.parts.length:=by simp[Sx.shape]at hsh;omega
 obtain⟨g,off,An1,cn1,Ae1,ce1,Aq,cq,rfl,hty,hc5⟩:=hp.spot 0 H2;have HT:=zh (show Sx.typ t=[42]::Sx.typ (t.parts[0]'H2)by
  rw[Sx.typ_eq,hkd,Sx.typL_head H2];simp)
 have H7:=Sx.size_mem (yfZ H2);obtain⟨p,hpe⟩:=zE (t.parts[0]'H2);have H4:p∈t.parts:=by rw[<-hpe];exact yfZ H2
 rw[hpe]at hty hc5 H7 HT;have Hr:=Sx.size_pos p;have Hi:=zh hty;have Hb:=zh hc5;have H3:=zh H4;have Hc:=zh ih;have Hj:(0:Int)<(t.parts.length:Int):=by omega
 have Hh:c+10 * (1+Sx.size p)<=1000000000:=by omega
 have H8:1+Sx.size p<=Sx.size t:=by omega
 clear hty hc5 hpe H4 ih H7 H2;have HR:=zh hr';obtain⟨L,hL⟩:=zE (w.heap.size);obtain⟨w2,hw2⟩:=zE (w.alloc (.cells #[.int .i64 5,.string ⟨t.name.toArray⟩,.slice An t.names.length cn,.slice Ae t.embeds.length ce,.slice (some ⟨g,off,none⟩) t.parts.length cp] 26));have H1:w2.heap[L]? =some (.cells #[.int .i64 5,.string ⟨t.name.toArray⟩,.slice An t.names.length cn,.slice Ae t.embeds.length ce,.slice (some ⟨g,off,none⟩) t.parts.length cp] 26 (0,0)):=by rw[<-hw2,<-hL];exact ydZ w _
 have hW2:Wrote W0 b c l w2:=by rw[<-hw2];exact h.grown (yeZ w _ none)
 have He:=zh (show KeepW w w2 by rw[<-hw2];exact KeepW.alloc w _);have Ha:=zh H1;have Hd:=zh hW2;obtain⟨x0,x1,x2,x3,x4⟩:=zcZ H1;have Hn:=zaZ H1;have Hm:=hW2.lt;clear hr hr' ht hp hnm hem H6 hW2 H1 h hsh hkd;clear x0 x1 x2 x3 x4;obtain⟨x0,x1,x2,x3,x4⟩:=zcZ Ha.o;go_enter Tryz.func59, Tryz.ntmps59;go_wp2_with (first
  | (go_at_call 100;refine(put1 (s:=[42]) Hd.o ⟨by simp,by simp⟩ (by omega)).mono ?_;rintro e w5 ⟨rfl,hW5,H5⟩;have H0:=H5 _ _ _ _ Ha.o (by decide) (by decide);clear x0 x1 x2 x3 x4;obtain⟨y0,y1,y2,y3,y4⟩:=zcZ H0;have Hp:=zaZ H0;have H9:=zh hW5;have Hf:=zh H5;clear H0 hW5 H5;obtain⟨hg5,d0,d1,d2,d3,d4⟩:=Hb.o w5 H9.o.below;rw[yrZ,ypZ]at d0 d1 d2 d3 d4)
  | (go_at_call 59;refine(Hc.o p H3.o d' _ _ _ w5 (HR.o p H3.o) Hi.o H9.o (by omega)).mono ?_;rintro e w6 ⟨rfl,hW6,Hg⟩))
 go_end0
 refine⟨rfl,(hW6.mono ?_).cast ?_,(He.o.trans Hf.o).trans Hg⟩
 ·omega
 ·rw[HT.o];simp[yiZ]
theorem zvdZ (N:Sx.Names) (hN:Sx.NamesOk N) (W0:World) (b:Nat) (t:Sx.Ty) (hsig:SigOk N W0 b t) (hkd:t.kind=7):TypOk N W0 b t:=by
 intro d v c l w hr ht h hc;obtain⟨An,cn,Ae,ce,Ap,cp,rfl,hnm,hem,hp⟩:=ht.agg;obtain⟨d',rfl,hr',hsh⟩:=Sx.right_parts hr;rw[hkd]at hsh ht ⊢;have H3:=Sx.size_parts t;have He:c+10<=1000000000:=by omega
 have H9:=zh (show t.parts≠[]by rintro e;simp[Sx.shape,e]at hsh);have HT:=zh (show Sx.typ t=[[102,110]]++Sx.signature t by rw[Sx.typ_eq,hkd,Sx.sig_eq];simp);have HS:=zh hsig;have Hh:=Sx.size_pos t;clear hsig;have HR:=zh hr';have H4:=zh ht;obtain⟨L,hL⟩:=zE (w.heap.size);obtain⟨w2,hw2⟩:=zE (w.alloc (.cells #[.int .i64 7,.string ⟨t.name.toArray⟩,.slice An t.names.length cn,.slice Ae t.embeds.length ce,.slice Ap t.parts.length cp] 26));have H1:w2.heap[L]? =some (.cells #[.int .i64 7,.string ⟨t.name.toArray⟩,.slice An t.names.length cn,.slice Ae t.embeds.length ce,.slice Ap t.parts.length cp] 26 (0,0)):=by rw[<-hw2,<-hL];exact ydZ w _
 have hW2:Wrote W0 b c l w2:=by rw[<-hw2];exact h.grown (yeZ w _ none)
 have H6:=zh (show KeepW w w2 by rw[<-hw2];exact KeepW.alloc w _);have Ha:=zh H1;have H5:=zh hW2;obtain⟨x0,x1,x2,x3,x4⟩:=zcZ H1;have Hd:=zaZ H1;have Hc:=hW2.lt;clear hr hr' ht hp hnm hem H3 hW2 H1 h hsh hkd;go_enter Tryz.func59, Tryz.ntmps59;go_wp2_with (first
  | (go_at_call 100;refine(put1 (s:=[102,110]) H5.o ⟨by simp,by simp⟩ (by omega)).mono ?_;rintro e w5 ⟨rfl,hW5,H2⟩;have H0:=H2 _ _ _ _ Ha.o (by decide) (by decide);clear x0 x1 x2 x3 x4;obtain⟨y0,y1,y2,y3,y4⟩:=zcZ H0;have Hf:=zaZ H0;have H7:=zh hW5;have H8:=zh H2;clear H0 hW5 H2)
  | (go_at_call 109;refine(HS.o d' _ _ _ w5 HR.o H9.o H4.o H7.o (by omega)).mono ?_;rintro e w6 ⟨rfl,hW6,Hb⟩))
 go_end0
 refine⟨rfl,(hW6.mono ?_).cast ?_,(H6.o.trans H8.o).trans Hb⟩
 ·omega
 ·rw[HT.o];simp[yiZ]
end Go.Proofs.YtdncljdfmdgdaaaGreatDoor
