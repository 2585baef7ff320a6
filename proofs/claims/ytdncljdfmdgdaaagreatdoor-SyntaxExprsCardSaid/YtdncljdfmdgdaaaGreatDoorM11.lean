/-
  Plain laws: a type's size bounds whatever is counted of it.
-/
import Derived.Test.YtdncljdfmdgdaaaGreatDoorM1
import Derived.Test.YtdncljdfmdgdaaaGreatDoorM10
import Derived.Maps.Views
set_option linter.unusedSimpArgs false
set_option linter.unusedVariables false
set_option maxRecDepth 1000000
set_option maxHeartbeats 8000000
namespace Go.Proofs.YtdncljdfmdgdaaaGreatDoor.Sx
open Go.Proofs.YtdncljdfmdgdaaaGreatDoor.Lx (Bytes)
theorem size_parts (t:Ty):size t=1+t.name.length+t.names.length+t.embeds.length+(t.names.map List.length).sum+sizeL t.parts:=by cases t;rw[size];rfl
theorem size_pos (t:Ty):1≤size t:=by rw[size_parts];omega
theorem size_mem:∀ {l:List Ty} {t:Ty},t∈l→size t≤sizeL l
 | u::l,t,h=>by
  rw[sizeL]
  rcases List.mem_cons.1 h with rfl | h
  ·omega
  ·have:=size_mem h;omega
theorem parts_mem {l:List Ty} {t:Ty} (h:t∈l):sizeL t.parts<sizeL l:=by
 have h1:=size_mem h
 have h2:=size_parts t
 omega
theorem length_size:∀(l:List Ty),l.length≤sizeL l
 | []=>by simp[sizeL]
 | t::l=>by
  rw[sizeL,List.length_cons]
  have:=length_size l
  have:=size_pos t
  omega
mutual
theorem znbZ:∀(t:Ty),nodes t≤size t
 | .mk k n ns es ps=>by
  rw[nodes,size]
  have:=nodesL_size ps
  split <;> omega
theorem nodesL_size:∀(l:List Ty),nodesL l≤sizeL l
 | []=>by simp[nodesL]
 | t::l=>by
  rw[nodesL,sizeL]
  have:=znbZ t
  have:=nodesL_size l
  omega
end
mutual
theorem zncZ:∀(t:Ty),depth t≤size t
 | .mk k n ns es ps=>by
  rw[depth,size]
  have:=depthL_size ps
  omega
theorem depthL_size:∀(l:List Ty),depthL l≤sizeL l
 | []=>by simp[depthL]
 | t::l=>by
  rw[depthL,sizeL]
  have:=zncZ t
  have:=depthL_size l
  omega
end
theorem zdpZ:∀(l m:List Ty),sizeL (l++m)=sizeL l+sizeL m
 | [],m=>by simp[sizeL]
 | t::l,m=>by rw[List.cons_append,sizeL,sizeL,zdpZ l m];omega
theorem nodes_take {l:List Ty} {m:Nat} (h:m<l.length):nodesL (l.take (m+1))=nodesL (l.take m)+nodes l[m]:=by
 rw[List.take_succ_eq_append_getElem h,zdcZ]
 simp[nodesL]
theorem depth_take {l:List Ty} {m:Nat} (h:m<l.length):depthL (l.take (m+1))=max (depthL (l.take m)) (depth l[m]):=by
 rw[List.take_succ_eq_append_getElem h,zddZ]
 simp[depthL]
theorem size_take {l:List Ty} {m:Nat} (h:m<l.length):sizeL (l.take (m+1))=sizeL (l.take m)+size l[m]:=by
 rw[List.take_succ_eq_append_getElem h,zdpZ]
 simp[sizeL]
theorem nodesL_take_le (l:List Ty) (m:Nat):nodesL (l.take m)≤nodesL l:=by
 conv=>rhs;rw[←List.take_append_drop m l,zdcZ]
 omega
theorem depthL_take_le (l:List Ty) (m:Nat):depthL (l.take m)≤depthL l:=by
 conv=>rhs;rw[←List.take_append_drop m l,zddZ]
 omega
theorem sizeL_take_le (l:List Ty) (m:Nat):sizeL (l.take m)≤sizeL l:=by
 conv=>rhs;rw[←List.take_append_drop m l,zdpZ]
 omega
end Go.Proofs.YtdncljdfmdgdaaaGreatDoor.Sx
namespace Go.Proofs.YtdncljdfmdgdaaaGreatDoor
open Go.RowKit Go.WideMaps
theorem Sx.mem_once:∀(l acc:List Lx.Bytes) (s:Lx.Bytes),s∈Sx.once acc l↔s∈acc∨s∈l
 | [],acc,s=>by simp[Sx.once]
 | x::l,acc,s=>by
  rw[Sx.once]
  split
  ·rename_i h
   rw[Sx.mem_once l acc s,List.mem_cons]
   have hx:x∈acc:=by simpa using h
   constructor
   ·rintro(h | h)
    ·exact .inl h
    ·exact .inr (.inr h)
   ·rintro(h | rfl | h)
    ·exact .inl h
    ·exact .inl hx
    ·exact .inr h
  ·rw[Sx.mem_once l _ s]
   simp[or_assoc]
theorem Sx.once_new {l:List Lx.Bytes} {s:Lx.Bytes} (h:l.count s=0):Sx.once [] (l++[s])=Sx.once [] l++[s]:=by
 rw[Sx.once_append,Sx.once,if_neg,Sx.once]
 intro h'
 have:=(Sx.mem_once l [] s).1 (by simpa using h')
 rcases this with h1 | h1
 ·cases h1
 ·exact List.count_eq_zero.1 h h1
theorem Sx.once_old {l:List Lx.Bytes} {s:Lx.Bytes} (h:0<l.count s):Sx.once [] (l++[s])=Sx.once [] l:=by
 rw[Sx.once_append,Sx.once,if_pos,Sx.once]
 have:=(Sx.mem_once l [] s).2 (.inr (List.count_pos_iff.1 h))
 simpa using this
theorem Sx.once_len:∀(l acc:List Lx.Bytes),(Sx.once acc l).length≤acc.length+l.length
 | [],acc=>by simp[Sx.once]
 | x::l,acc=>by
  rw[Sx.once]
  split
  ·have:=Sx.once_len l acc
   simp;omega
  ·have:=Sx.once_len l (acc++[x])
   simp at this ⊢;omega
def strsV (l:List Lx.Bytes):List Value:=l.map fun s=>Value.string ⟨s.toArray⟩
def OwnS (w:World) (base:Nat) (v:Value) (l:List Lx.Bytes):Prop:=w.ownsRow base 9 1 v l.length (strsV l)
theorem zfxZ:(Tryz.prog.info? 9).map (fun i=>(i.zero,i.size,i.bytes))=some (some (.string ByteArray.empty),1,16):=by kernel_rfl
theorem zhwZ (w:World):(zeroValue 3).run Tryz.prog w=.ok (.int .i64 0) w:=by kernel_rfl
theorem OwnS.slice {w:World} {base:Nat} {v:Value} {l:List Lx.Bytes} (h:OwnS w base v l):∃A c,v=.slice A l.length c:=by
 rcases h.2 with⟨rfl,h0⟩ | ⟨g,cap,cur,rfl,_⟩
 ·exact⟨none,0,by rw[h0]⟩
 ·exact⟨_,cap,rfl⟩
structure Met (B bl bc b:Nat) (l:List Lx.Bytes) (w:World):Prop where
 hl:B≤bl
 hc:B≤bc
 hb:B≤b
 bk:∃v,Boxed w bl 22 v∧OwnS w B v (Sx.once [] l)
 cm:Boxed w bc 107 (.map (some b))
 mp:∃n,∃D:DataW Unit,n≤l.length∧w.ownsMap Tryz.prog 9 (plainElem Tryz.prog 3) b n D∧Maps.IsMap D∧∀s,D.atKey (.string s) (.lit (.int .i64 0))=.lit (.int .i64 (l.count s:Nat))
theorem OwnS.ne_box {w:World} {B bl t:Nat} {v x:Value} {l:List Lx.Bytes} (h:OwnS w B v l) (ht : 9 ≠t) (hb:Boxed w bl t x):∀r,v.ownBlock=some r→B≤r∧bl≠r:=by
 intro r hr
 obtain⟨h1,c,h2⟩:=zcdZ h r hr
 refine⟨h1,fun e=>?_⟩
 subst e
 rw[show w.heap[bl]? =_ from hb]at h2
 injection h2 with h2
 injection h2 with _ h2
 exact ht h2.symm
theorem zvcZ {w:World} {a b t t':Nat} {x y:Value} (h:Boxed w a t x) (h':Boxed w b t' y) (hne:t≠t'):a≠b:=by
 rintro rfl
 unfold Boxed at h h'
 rw[h]at h'
 injection h' with h'
 injection h' with _ h'
 exact hne h'
theorem zcZ {w:World} {g t:Nat} {a b c d e:Value} (h:w.heap[g]? =some (.cells #[a,b,c,d,e] t (0,0))) :
  w.cell? ⟨g,0,none⟩=some a∧w.cell? ⟨g,1,none⟩=some b∧w.cell? ⟨g,2,none⟩=some c∧w.cell? ⟨g,3,none⟩=some d∧w.cell? ⟨g,4,none⟩=some e:=
 ⟨zdZ h 0,zdZ h 1,zdZ h 2,zdZ h 3,zdZ h 4⟩
theorem zllZ {H:Type} {w:World} {P:Program} {k:TypeId} {R:Value→Option (DataW H×List MemPlace)} {b n:Nat} {D:DataW H} (h:w.ownsMap P k R b n D) {a:Addr} (ha:b≠a.block) (u:Value):(w.setCell a u).ownsMap P k R b n D:=by
 obtain⟨es,clock,hb,r⟩:=h
 exact⟨es,clock,by rw[Below.heap_setCell _ _ _ _ ha];exact hb,r⟩
theorem zelZ {H:Type} {w:World} {P:Program} {k:TypeId} {R:Value→Option (DataW H×List MemPlace)} {b n:Nat} {D:DataW H} (h:w.ownsMap P k R b n D) {g t:Nat} {x:Value} (hb:Boxed w g t x):b≠g:=by
 obtain⟨es,clock,h1,r⟩:=h
 rintro rfl
 rw[show w.heap[b]? =_ from hb]at h1
 cases h1
theorem zgcZ {H:Type} {w:World} {P:Program} {k:TypeId} {R:Value→Option (DataW H×List MemPlace)} {b n:Nat} {D:DataW H} (h:w.ownsMap P k R b n D) {B:Nat} {v:Value} {l:List Lx.Bytes} (ho:OwnS w B v l):some b≠v.ownBlock:=by
 intro e
 obtain⟨h1,c,h2⟩:=zcdZ ho b e.symm
 obtain⟨es,clock,h3,r⟩:=h
 rw[h3]at h2
 cases h2
theorem zobZ (a:Int) (h1:-1000000000≤a) (h2:a≤1000000000):(Lit.int .i64 a).wf=true:=by
 have e1:IntKind.min .i64=-9223372036854775808:=by decide
 have e2:IntKind.max .i64=9223372036854775807:=by decide
 simp only[Lit.wf,e1,e2,Bool.and_eq_true,decide_eq_true_eq]
 omega
def Keep (w w':World):Prop:=∀(k:Nat) (cs:Array Value) (t:TypeId) (fr:Nat×Nat),w.heap[k]? =some (Obj.cells cs t fr)→t≠ 9 →t≠ 22 →w'.heap[k]? =some (Obj.cells cs t fr)
theorem Keep.refl (w:World):Keep w w:=fun _ _ _ _ h _ _=>h
theorem Keep.trans {a b c:World} (h:Keep a b) (h':Keep b c):Keep a c:=fun k cs t fr hk h1 h2=>h' k cs t fr (h k cs t fr hk h1 h2) h1 h2
theorem Keep.grown {w w':World} {row:Option Nat} (hg:w.grownBy w' row) (hr:∀j,row=some j→∀cs t fr,w.heap[j]? =some (.cells cs t fr)→t= 9 ∨t= 22):Keep w w':=by
 intro k cs t fr hk h1 h2
 refine(hg.block k (zaZ hk) (fun e=>?_)).trans hk
 rcases hr k e.symm cs t fr hk with h | h
 ·exact h1 h
 ·exact h2 h
theorem Keep.set {w:World} {bl:Nat} {v:Value} (h:Boxed w bl 22 v) (u:Value):Keep w (w.setCell ⟨bl,0,none⟩ u):=by
 intro k cs t fr hk h1 h2
 refine(Below.heap_setCell w ⟨bl,0,none⟩ u k ?_).trans hk
 rintro rfl
 rw[show w.heap[k]? =_ from h]at hk
 injection hk with hk
 injection hk with _ hk
 exact h2 hk.symm
theorem Met.kept {B bl bc b:Nat} {l:List Lx.Bytes} {w w':World} (h:Met B bl bc b l w) (hg:w.grownBy w' none):Met B bl bc b l w':=by
 obtain⟨h1,h2,h3,⟨v,hbl,ho⟩,hbc,n,D,hn,hm,hD,hat⟩:=h
 exact⟨h1,h2,h3,⟨v,hbl.kept hg (by simp),World.ownsRow.kept ho hg (by cases v.ownBlock <;> simp)⟩,hbc.kept hg (by simp),n,D,hn,hm.kept hg (by simp),hD,hat⟩
theorem ztjZ (B bl bc b:Nat) (l:List Lx.Bytes) (s:Lx.Bytes) (w:World) (h:Met B bl bc b l w) (hB:B≤w.heap.size) (hl:l.length≤1000000) (hs:s.length≤140737488351232) :
  Calls Tryz.prog 62 #[.string ⟨s.toArray⟩,.pointer (some ⟨bc,0,none⟩),.pointer (some ⟨bl,0,none⟩)] w fun e w'=>
   e=.returned (.tuple #[])∧Met B bl bc b (l++[s]) w'∧Below B w w'∧Keep w w':=by
 obtain⟨h1,h2,h3,⟨v,hbl,ho⟩,hbc,n,D,hn,hm,hD,hat⟩:=h
 have H5:keyOf Tryz.prog 9 (.string ⟨s.toArray⟩)=some (.string s):=by
  simpa using keyOf_string_mk (P:= Tryz.prog) Tryz.underlying9 (s:=⟨s.toArray⟩) (by simp[ByteArray.size,maxLen];omega)
 have kb:=Maps.string_keyed (P:= Tryz.prog) Tryz.underlying9
 obtain⟨k,hk⟩:=zE (l.count s)
 have Ja:k≤1000000:=by have:=List.count_le_length (a:=s) (l:=l);omega
 have J6:(k:Int)≤1000000:=by omega
 have J7:(0:Int)≤(k:Int):=by omega
 obtain⟨c,hlk,hc,wc⟩:=hm.lookup_int kb Tryz.underlying107 Tryz.underlying3 (zhwZ _) H5
 rw[hat s,hk]at hc
 injection hc with hc
 injection hc with _ hc
 subst hc
 have cC:=hbc.cell
 have cL:=hbl.cell
 have fL:=hbl.frozen
 have J8:=hbc.lt
 have Jc:=hbl.lt
 have J9:=hm.lt
 have Jb:n≤1000000:=by omega
 have HK:=zh hk
 have J2:=zh hat
 have HN:=zh hn
 have HD:=zh hD
 have HO:=zh ho
 have Ht:=zh hbl
 have Hl:=zh hbc
 have HM:=zh hm
 clear hk hat hn hD ho hbl hbc
 have Hk:=plainElem_int (H:=Unit) (P:= Tryz.prog) Tryz.underlying3 (a:=(k:Int)+1) (zobZ _ (by omega) (by omega))
 go_enter Tryz.func62, Tryz.ntmps62
 go_wp2_with (at_mapUpdate;refine wpList_mapUpdate_own _ rfl _ _ _ 107 rfl 9 3 kb Tryz.underlying107 _ b n _ rfl hm (by unfold maxLen;omega) _ _ _ rfl rfl H5 _ [] Hk ?_)
 intro w1 Hp H8
 have H4:Boxed w1 bc 107 (.map (some b)):=Hl.o.kept H8 (fun e=>zelZ HM.o Hl.o (Option.some.inj e).symm)
 have H2:Boxed w1 bl 22 v:=Ht.o.kept H8 (fun e=>zelZ HM.o Ht.o (Option.some.inj e).symm)
 have Hq:OwnS w1 B v (Sx.once [] l):=World.ownsRow.kept HO.o H8 (.inr (fun e=>zgcZ HM.o HO.o e.symm))
 have hD1:=HD.o.put (.string s) (.lit (.int .i64 ((k:Int)+1)))
 have Ha:∀t,(D.put (.string s) (.lit (.int .i64 ((k:Int)+1)))).atKey (.string t) (.lit (.int .i64 0))=.lit (.int .i64 ((l++[s]).count t:Nat)):=by
  intro t
  rw[List.count_append]
  by_cases hts:t=s
  ·subst hts
   rw[Maps.atKey_put_same HD.o (by trivial),HK.o]
   simp
  ·rw[Maps.atKey_put_other (by intro e;injection e with e;exact hts e),J2.o t]
   have:List.count t [s]=0:=by rw[List.count_eq_zero];simpa using hts
   rw[this,Nat.add_zero]
 obtain⟨c1,hlk1,hc1,wc1⟩:=Hp.lookup_int kb Tryz.underlying107 Tryz.underlying3 (zhwZ _) H5
 rw[Maps.atKey_put_same HD.o (by trivial)]at hc1
 injection hc1 with hc1
 injection hc1 with _ hc1
 subst hc1
 have cC1:=H4.cell
 have cL1:=H2.cell
 have fL1:=H2.frozen
 have Hy:=H4.lt
 have Hx:=H2.lt
 have hB1:B≤w1.heap.size:=Nat.le_trans hB H8.size
 have H1:=zh H2
 have H3:=zh H4
 have Ho:=zh Hq
 have Hu:=zh hD1
 have H9:=zh Ha
 have He:=zh Hp
 have Hg:=zh H8
 clear H2 H4 Hq hD1 Ha H8 hm hlk Hk
 have Hr:∀j,some b=some j→B≤j:=fun j e=>by injection e with e;omega
 have Hn:=zh Hr
 have Hm:=zh (Keep.grown Hg.o (by
  intro j e cs t fr hj
  injection e with e
  subst e
  obtain⟨es,clock,h1,_⟩:=HM.o
  rw[h1]at hj
  cases hj))
 clear Hr
 by_cases hk1:k=0
 ·have he:((k:Int)+1==1)=true:=by simp[hk1]
  have Hi:=zh hk1
  clear hk1
  have J1:=zh (Sx.once_new (s:=s) (l:=l) (by rw[HK.o];exact Hi.o))
  have Hz:=zh (Sx.once_len l [])
  obtain⟨u,hu⟩:=zE (Sx.once [] l)
  have J5:u.length≤1000000:=by have:=Hz.o;rw[hu]at this;simp at this;omega
  have H6:=Ho.o
  rw[hu]at H6
  obtain⟨i0,hi,hz0,hz1,hz2⟩:=info_parts zfxZ
  have HU:=zh hu
  clear hu
  go_wp2_with (at_builtin;refine wpList_append_own _ rfl _ _ 22 rfl B 9 i0 _ 1 16 Tryz.underlying22 hi hz0 hz1 hz2 rfl (by decide) v u.length (strsV u) rfl (World.ownsRow.alloc H6 _) ⟨w1.heap.size,0,none⟩ 1 1 [.string ⟨s.toArray⟩] rfl rfl (cell_one_new _ _ _) (by simp[Value.oneCell']) (by unfold maxLen;omega) (by omega) (by simp;omega) ?_)
  intro v' w2 hown' hgrow' _
  have Hh:=OwnS.ne_box H6 (by decide) H1.o
  have Hj:=OwnS.ne_box H6 (by decide) H3.o
  have Hw:=zgcZ He.o H6
  have H7:w1.grownBy w2 v.ownBlock:=(World.grownBy_alloc w1 _ _).trans hgrow'
  have H0:Boxed w2 bl 22 v:=H1.o.kept H7 (fun e=>(Hh bl e.symm).2 rfl)
  have Hd:Boxed w2 bc 107 (.map (some b)):=H3.o.kept H7 (fun e=>(Hj bc e.symm).2 rfl)
  have Hv:=He.o.kept H7 Hw
  have Hf:OwnS w2 B v' (u++[s]):=by
   unfold OwnS strsV
   rw[List.map_append]
   simpa[strsV]using hown'
  have cL2:=H0.cell
  have fL2:=H0.frozen
  have J3:=H0.lt
  have Hs:bl≠b:=fun e=>zelZ He.o H1.o e.symm
  have Hc:bl≠bc:=zvcZ H1.o H3.o (by decide)
  obtain⟨A',c',hv'⟩:=Hf.slice
  rw[show(u++[s]).length=u.length+1 by simp]at hv'
  subst hv'
  have Hb:=OwnS.ne_box Hf (by decide) H0
  have HF:=zh (show Met B bl bc b (l++[s]) (w2.setCell ⟨bl,0,none⟩ (.slice A' (u.length+1) c'))from
   ⟨h1,h2,h3,⟨.slice A' (u.length+1) c',by unfold Boxed;exact one_setCell H0,by rw[J1.o,HU.o];exact ownsRow_setCell_other Hf (a:=⟨bl,0,none⟩) (fun e=>(Hb bl e).2 rfl) _⟩,
    (Below.heap_setCell w2 ⟨bl,0,none⟩ (.slice A' (u.length+1) c') bc Hc.symm).trans Hd,n+1,_,by simp;have:=HN.o;omega,zllZ Hv Hs.symm _,Hu.o,H9.o⟩)
  have J0:=zh (show Below B w (w2.setCell ⟨bl,0,none⟩ (.slice A' (u.length+1) c'))from(((Below.refl B w).grown Hg.o hB Hn.o).grown H7 hB1 (fun j e=>(Hh j e).1)).setCell h1 _)
  have J4:=zh (show Keep w (w2.setCell ⟨bl,0,none⟩ (.slice A' (u.length+1) c'))from(Hm.o.trans (Keep.grown H7 (by
   intro j e cs t fr hj
   obtain⟨_,c,h2⟩:=zcdZ H6 j e
   rw[h2]at hj
   injection hj with hj
   injection hj with _ hj
   exact .inl hj.symm))).trans (Keep.set H0 _))
  clear hown' hgrow' Hh Hj Hw H7 H0 Hd Hv Hf Hs Hc Hb H6
  go_wp2
  go_end0
  exact⟨rfl,HF.o,J0.o,J4.o⟩
 ·have he:((k:Int)+1==1)=false:=by simp;omega
  have Hi:=zh hk1
  clear hk1
  go_wp2
  go_end0
  refine⟨rfl,⟨h1,h2,h3,⟨v,H1.o,?_⟩,H3.o,n+1,_,by simp;have:=HN.o;omega,He.o,Hu.o,H9.o⟩,(Below.refl B w).grown Hg.o hB Hn.o,Hm.o⟩
  rw[Sx.once_old (by rw[HK.o];have:=Hi.o;omega)]
  exact Ho.o
theorem Sx.names_take {l:List Sx.Ty} {m:Nat} (h:m<l.length):Sx.allNamesL (l.take (m+1))=Sx.allNamesL (l.take m)++Sx.allNames l[m]:=by
 rw[List.take_succ_eq_append_getElem h,Sx.namesL_append]
 simp[Sx.allNamesL]
mutual
theorem Sx.names_size:∀(t:Sx.Ty),(Sx.allNames t).length≤Sx.size t
 | .mk k n ns es ps=>by
  rw[Sx.allNames,Sx.size,List.length_append]
  have:=Sx.namesL_size ps
  split <;> simp <;> omega
theorem Sx.namesL_size:∀(l:List Sx.Ty),(Sx.allNamesL l).length≤Sx.sizeL l
 | []=>by simp[Sx.allNamesL]
 | t::l=>by
  rw[Sx.allNamesL,Sx.sizeL,List.length_append]
  have:=Sx.names_size t
  have:=Sx.namesL_size l
  omega
end
theorem zndZ (W0 : World) (bl bc b : Nat) : ∀ (n : Nat) (l : List Sx.Ty) (v : Value) (told : List Lx.Bytes) (W : World), Sx.sizeL l ≤ n → told.length + n ≤ 1000000 → TyRow W0 v l → Below W0.heap.size W0 W → Met W0.heap.size bl bc b told W →
    Calls Tryz.prog 61 #[v, .func (.func 62) #[] #[.pointer (some ⟨bc, 0, none⟩), .pointer (some ⟨bl, 0, none⟩)]] W fun e W' =>
      e = .returned (.tuple #[]) ∧ Met W0.heap.size bl bc b (told ++ Sx.allNamesL l) W' ∧ Below W0.heap.size W0 W' ∧ Keep W W' := by
  intro n
  induction n using Nat.strongRecOn with
  | _ n ih =>
    intro l v told W hn Jl hv Hq hM
    obtain ⟨A, c, rfl, Jf, hl⟩ := hv
    have J9 := Sx.length_size l
    have Jk := Sx.namesL_size l
    have Jo : (l.length : Int) ≤ 1000000 := by omega
    have HL := zh hl
    have Ho := zh ih
    have J3 := zh Hq
    have HM := zh hM
    clear ih hl Hq hM
    go_enter Tryz.func61, Tryz.ntmps61
    go_wp2_with fail
    go_loopg [8] (l.length) (fun i v wr => ∃ (m : Nat), i = l.length - m ∧ v = .int .i64 (m : Int) ∧ m ≤ l.length ∧ Met W0.heap.size bl bc b (told ++ Sx.allNamesL (l.take m)) wr ∧ Below W0.heap.size W0 wr ∧ Keep W wr)
    case atStart => exact ⟨0, rfl, rfl, Nat.zero_le _, by simpa [Sx.allNamesL] using HM.o, J3.o, Keep.refl _⟩
    case round =>
      obtain ⟨m, hi, rfl, hm, H6, hb, Hw⟩ := hrel
      have J0 := zh Hw
      clear Hw
      have HI := zh hi
      have Hn := zh H6
      have HB := zh hb
      have m0 : (0 : Int) ≤ (m : Int) := by omega
      clear hi H6 hb
      by_cases hlt : m < l.length
      · have Jb : (m : Int) < (l.length : Int) := by omega
        obtain ⟨g, off, v0, v1, v2, v3, v4, rfl, c0, c1, c2, c3, c4, ht⟩ := IsTys.at (IsTys.below HB.o l _ 0 HL.o) m hlt
        have Ja : ∃ v0 v1 v2 v3 v4, W0.cell? ⟨g, off + (0 + m) * 5, none⟩ = some v0 ∧ W0.cell? ⟨g, off + (0 + m) * 5 + 1, none⟩ = some v1 ∧ W0.cell? ⟨g, off + (0 + m) * 5 + 2, none⟩ = some v2 ∧ W0.cell? ⟨g, off + (0 + m) * 5 + 3, none⟩ = some v3 ∧ W0.cell? ⟨g, off + (0 + m) * 5 + 4, none⟩ = some v4 ∧ IsTy W0 (.agg #[v0, v1, v2, v3, v4]) (l[m]'hlt) := by
          obtain ⟨g', off', v0', v1', v2', v3', v4', e, c0', c1', c2', c3', c4', ht'⟩ := IsTys.at HL.o m hlt
          injection e with e
          injection e with e1 e2
          subst e1 e2
          exact ⟨v0', v1', v2', v3', v4', c0', c1', c2', c3', c4', ht'⟩
        clear ht c0 c1 c2 c3 c4 v0 v1 v2 v3 v4
        obtain ⟨v0, v1, v2, v3, v4, c0, c1, c2, c3, c4, ht⟩ := Ja
        obtain ⟨t, H5⟩ := zE (l[m]'hlt)
        have H9 : t ∈ l := by rw [← H5]; exact List.getElem_mem hlt
        rw [H5] at ht
        have J2 := zh (Sx.parts_mem H9)
        have J6 := zh (Sx.size_mem H9)
        have Hu := zh (Sx.size_parts t)
        have HT := zh (Sx.names_take hlt)
        have Jg := zh (show Sx.sizeL (l.take (m + 1)) = Sx.sizeL (l.take m) + Sx.size t by rw [Sx.size_take hlt, H5])
        have Hi := zh (Sx.sizeL_take_le l (m + 1))
        have J4 := zh (Sx.namesL_size (l.take m))
        have Hv := zh H5
        have Hh := zh (show (told ++ Sx.allNamesL (l.take m)).length + (1 + Sx.sizeL t.parts) ≤ 1000000 by have := J4.o; have := Jg.o; have := Hi.o; have := Hu.o; simp; omega)
        obtain ⟨vn, ve, vp, H1, Hm, Hp, Hk⟩ := ht.limbs
        obtain ⟨An, cn, Jh, -⟩ := id Hm
        obtain ⟨Ae, ce, Jj, -⟩ := id Hp
        obtain ⟨Ap, cp, Je, -, -⟩ := id Hk
        subst Jh Jj Je
        injection H1 with H1
        simp only [Array.mk.injEq, List.cons.injEq, and_true] at H1
        obtain ⟨rfl, rfl, rfl, rfl, rfl⟩ := H1
        rw [Nat.zero_add] at c0 c1 c2 c3 c4
        have H8 := World.block_lt_of_cell? W0 ⟨g, _, none⟩ c0
        simp only at H8
        have up : ∀ {j : Nat} {u : Value}, W0.cell? ⟨g, j, none⟩ = some u → wr.cell? ⟨g, j, none⟩ = some u := fun {j u} hj => (World.cell?_of_block (HB.o.block g H8)).trans hj
        replace c0 := up c0
        replace c1 := up c1
        replace c2 := up c2
        replace c3 := up c3
        replace c4 := up c4
        have Jc := World.block_lt_of_cell? wr ⟨g, _, none⟩ c0
        simp only at Jc
        have HP := zh Hk
        have Hz := zh (Sx.names_parts t)
        obtain ⟨kd, Hg⟩ := zE (t.kind)
        have J1 := zh Hg
        rw [Hg] at c0
        have Jm := HB.o.size
        obtain ⟨w2, Hd⟩ := zE (wr.alloc (.cells #[.int .i64 kd, .string ⟨t.name.toArray⟩, .slice An t.names.length cn, .slice Ae t.embeds.length ce, .slice Ap t.parts.length cp] 26))
        have Ha : wr.grownBy w2 none := by rw [← Hd]; exact World.grownBy_alloc _ _ _
        have Hx : Below W0.heap.size W0 w2 := HB.o.grown Ha HB.o.size (fun j e => nomatch e)
        have H2 := Hn.o.kept Ha
        clear Hm Hp Hk ht Hg H5 up
        have J8 : wr.heap.size < w2.heap.size := by rw [← Hd]; simp
        obtain ⟨L, hL⟩ := zE (wr.heap.size)
        have H7 : w2.heap[L]? = some (.cells #[.int .i64 kd, .string ⟨t.name.toArray⟩, .slice An t.names.length cn, .slice Ae t.embeds.length ce, .slice Ap t.parts.length cp] 26 (0, 0)) := by rw [← Hd, ← hL]; exact heap_alloc_new wr _
        have Hb := zh H7
        have Hc := zh Hx
        have Hy := zh H2
        have Hr := zh (J0.o.trans (Keep.grown Ha (fun j e => nomatch e)))
        clear H7 Hx H2 Ha
        by_cases h4 : kd = 4
        · have Jd : (kd == 4) = true := by simp [h4]
          have H4 := zh h4
          clear h4
          obtain ⟨x0, x1, x2, x3, x4⟩ := zcZ Hb.o
          have H3 := ztjZ W0.heap.size bl bc b (told ++ Sx.allNamesL (l.take m)) t.name w2 Hy.o (by have := Hc.o.size; omega) (by have := Hh.o; omega) (by have := Hu.o; have := J6.o; omega)
          go_wp2_with (first
            | (go_at_call 62; refine H3.mono ?_; clear H3 x0 x1 x2 x3 x4; rintro e W3 ⟨rfl, Ht, Hs, Hj⟩
               have H0 := Hj _ _ _ _ Hb.o (by decide) (by decide)
               obtain ⟨x0, x1, x2, x3, x4⟩ := zcZ H0
               have Jn := zaZ H0
               have J5 := zh Ht
               have Ji := zh (Hc.o.trans Hs)
               have J7 := zh (Hr.o.trans Hj)
               clear Ht Hs Hj H0)
            | (go_at_call 61
               refine (Ho.o (Sx.sizeL t.parts) (by have := J2.o; omega) t.parts _ _ W3 (Nat.le_refl _) (by have := Hh.o; simp at this ⊢; omega) HP.o Ji.o J5.o).mono ?_
               rintro e W4 ⟨rfl, He, Hl, Hf⟩))
          go_roundg (l.length - (m + 1))
          case measure => have := HI.o; omega
          case rel =>
            refine ⟨m + 1, rfl, by simp, hlt, ?_, Hl, J7.o.trans Hf⟩
            rw [HT.o, Hv.o, Hz.o, J1.o, if_pos H4.o]
            simpa [List.append_assoc] using He
        · have Jd : (kd == 4) = false := by simp [h4]
          have H4 := zh h4
          clear h4
          obtain ⟨x0, x1, x2, x3, x4⟩ := zcZ Hb.o
          go_wp2_with (go_at_call 61
                       refine (Ho.o (Sx.sizeL t.parts) (by have := J2.o; omega) t.parts _ _ w2 (Nat.le_refl _) (by have := Hh.o; omega) HP.o Hc.o Hy.o).mono ?_
                       rintro e W4 ⟨rfl, He, Hl, Hf⟩)
          go_roundg (l.length - (m + 1))
          case measure => have := HI.o; omega
          case rel =>
            refine ⟨m + 1, rfl, by simp, hlt, ?_, Hl, Hr.o.trans Hf⟩
            rw [HT.o, Hv.o, Hz.o, J1.o, if_neg H4.o]
            simpa [List.append_assoc] using He
      · have Jb : ¬ (m : Int) < (l.length : Int) := by omega
        go_wp2_with fail
        go_end0
        refine ⟨rfl, ?_, HB.o, J0.o⟩
        have := Hn.o
        rwa [List.take_of_length_le (by omega)] at this
end Go.Proofs.YtdncljdfmdgdaaaGreatDoor
namespace Go.Proofs.YtdncljdfmdgdaaaGreatDoor.Sx
open Go.Proofs.YtdncljdfmdgdaaaGreatDoor.Lx (Bytes)
inductive Ex where
 | mk (pos kind n:Int) (s:Bytes) (t:List Ty) (names:List Bytes) (parts:List Ex)
def Ex.kind:Ex→Int | .mk _ k _ _ _ _ _=>k
def Ex.parts:Ex→List Ex | .mk _ _ _ _ _ _ ps=>ps
inductive St where
 | mk (pos kind:Int) (name:Bytes) (t:List Ty) (x:List Ex) (body els:List St)
def St.kind:St→Int | .mk _ k _ _ _ _ _=>k
structure Param where
 name:Bytes
 t:Ty
structure Code where
 pos:Int
 owner:Bytes
 name:Bytes
 params:List Param
 result:Ty
 body:List St
def level (k:Int):Nat:=
 if k=21 then 1 else if k=20 then 2 else if k=18∨k=19 then 3 else if k=16∨k=17 then 4 else if k=15 then 5 else if k=13∨k=14 then 6 else if 9≤k∧k≤12 then 7 else 8
def sign (k:Int):Bytes:=
 if k=15 then [42]else if k=16 then [43]else if k=17 then [45]else if k=18 then [61,61]else if k=19 then [60]else if k=20 then [97,110,100]else [111,114]
structure Says where
 digits:Int→Bytes
 quote:Bytes→Bytes
mutual
def expr (S:Says):Ex→List Bytes
 | .mk _ k n s t ns ps=>
  if k=1 then [S.digits n]
  else if k=2 then [S.quote s]
  else if k=3 then [if n=1 then [116,114,117,101]else [102,97,108,115,101]]
  else if k=4 then [s]
  else if k=5 then [[115,101,108,102]]
  else if k=6 then [110,105,108]::typL t
  else if k=7∨k=8 then(if k=8 then [[110,101,119]]else [])++[s,[123]]++record S 0 ns ps++[[125]]
  else if k=9 then first S 7 ps++[[46],s]
  else if k=10 then first S 7 ps++[[46],s]++args S ps
  else if k=11 then applied S ps++args S ps
  else if k=12 then first S 7 ps++[[116,111]]++typL t
  else if k=13∨k=14 then(if k=13 then [45]else [110,111,116])::first S 6 ps
  else first S (if level k=3 then 4 else level k) ps++[sign k]++second S (level k+1) ps
def first (S:Says):Nat→List Ex→List Bytes
 | _,[]=>[]
 | l,x::_=>if level x.kind<l then [[40]]++expr S x++[[41]]else expr S x
def second (S:Says):Nat→List Ex→List Bytes
 | _,[]=>[]
 | l,_::ps=>first S l ps
def applied (S:Says):List Ex→List Bytes
 | []=>[]
 | x::_=>if x.kind=9∨level x.kind<7 then [[40]]++expr S x++[[41]]else expr S x
def args (S:Says):List Ex→List Bytes
 | []=>[]
 | _::ps=>[[40]]++list S 0 ps++[[41]]
def list (S:Says):Nat→List Ex→List Bytes
 | _,[]=>[]
 | i,x::ps=>(if 0<i then [[44]]else [])++expr S x++list S (i+1) ps
def record (S:Says):Nat→List Bytes→List Ex→List Bytes
 | i,n::ns,x::ps=>(if 0<i then [[44]]else [])++[n,[58]]++expr S x++record S (i+1) ns ps
 | _,_,_=>[]
end
mutual
def stmt (S:Says):St→List Bytes
 | .mk _ k nm t x b e=>
  (if k=1 then [[108,101,116],nm]++typL t++[[61]]else if k=2 then [nm,[61]]else if k=3 then [[112,114,105,110,116]]else if k=4 then [[105,102]]
   else if k=5 then [[119,104,105,108,101]]else if k=6 then [[114,101,116,117,114,110]]else [])++
  first S 0 x++
  (if k≠4∧k≠5 then [[59]]else if e.isEmpty then [[123]]++stmts S b++[[125]]
   else [[123]]++stmts S b++[[125]]++[[101,108,115,101]]++[[123]]++stmts S e++[[125]])
def stmts (S:Says):List St→List Bytes
 | []=>[]
 | s::l=>stmt S s++stmts S l
end
/-! ### which are right -/
structure Names where
 small:Bytes→Bool
 great:Bytes→Bool
 said:Bytes→Bool
def apart (N:Names):List Bytes→Bool
 | []=>true
 | s::l=>N.small s&&(!l.contains s&&apart N l)
def shape (N:Names) (k:Int) (n:Bytes) (ns:List Bytes) (es:List Bool) (ps:List Ty):Bool:=
 if k=1∨k=2∨k=3 then n.isEmpty&&ns.isEmpty&&es.isEmpty&&ps.isEmpty
 else if k=4 then N.great n&&ns.isEmpty&&es.isEmpty&&ps.isEmpty
 else if k=5 then n.isEmpty&&ns.isEmpty&&es.isEmpty&&ps.length==1
 else if k=7 then n.isEmpty&&ns.isEmpty&&es.isEmpty&&decide (1≤ps.length)
 else if k=6 then n.isEmpty&&es.length==ns.length&&ps.length==ns.length&&apart N ns
 else if k=8 then ps.all (fun p=>p.kind==7)&&(n.isEmpty&&es.isEmpty&&ps.length==ns.length&&apart N ns)
 else false
mutual
def rightT (N:Names):Nat→Ty→Bool
 | 0,_=>false
 | d+1,.mk k n ns es ps=>rightTs N d ps&&shape N k n ns es ps
def rightTs (N:Names):Nat→List Ty→Bool
 | _,[]=>true
 | d,t::l=>rightT N d t&&rightTs N d l
end
def shapeX (N:Names) (k n:Int) (s:Bytes) (t:List Ty) (ns:List Bytes) (m:Nat):Bool:=
 decide (1≤k∧k≤21)&&
 ((if k=2 then N.said s else if k=4∨k=9∨k=10 then N.small s else if k=7∨k=8 then N.great s else s.isEmpty)&&
 ((decide (n=0)||(decide (k=1∧0≤n)||decide (k=3∧0≤n∧n≤1)))&&
 ((if k=6∨k=12 then t.length==1&&rightTs N 64 t else t.isEmpty)&&
 (if k=7∨k=8 then m==ns.length&&apart N ns else ns.isEmpty&&(if k≤6 then m==0 else if k=9∨k=12∨k=13∨k=14 then m==1 else if k=10∨k=11 then decide (1≤m)else m==2)))))
def flat (k:Int):Bool:=decide ((9≤k∧k≤12)∨15≤k)
mutual
def rightX (N:Names):Nat→Ex→Bool
 | 0,_=>false
 | d+1,.mk _ k n s t ns ps=>shapeX N k n s t ns ps.length&&rightXs N (if flat k then d+1 else d) d ps
def rightXs (N:Names):Nat→Nat→List Ex→Bool
 | _,_,[]=>true
 | d0,d,x::l=>rightX N d0 x&&rightXs N d d l
end
def shapeS (N:Names) (k:Int) (nm:Bytes) (t:List Ty) (x:List Ex) (b e:List St):Bool:=
 (decide (1≤k∧k≤7)&&(x.length==1&&rightXs N 64 64 x))&&
 ((if k=1∨k=2 then N.small nm else nm.isEmpty)&&
 ((t.isEmpty||(decide (k=1)&&(t.length==1&&rightTs N 64 t)))&&
 ((decide (k=4∨k=5)||b.isEmpty)&&(decide (k=4)||e.isEmpty))))
mutual
def rightS (N:Names):Nat→St→Bool
 | 0,_=>false
 | d+1,.mk _ k nm t x b e=>shapeS N k nm t x b e&&(rightSs N d b&&rightSs N d e)
def rightSs (N:Names):Nat→List St→Bool
 | _,[]=>true
 | d,s::l=>rightS N d s&&rightSs N d l
end
end Go.Proofs.YtdncljdfmdgdaaaGreatDoor.Sx
