/-
  The walks of a type's text: signature, typ.
-/
import Derived.Test.YtdncljdfmdgdaaaGreatDoorM1
import Derived.Test.YtdncljdfmdgdaaaGreatDoorM13
import Derived.Test.YtdncljdfmdgdaaaGreatDoorM11
set_option linter.unusedSimpArgs false
set_option linter.unusedVariables false
set_option maxRecDepth 100000
set_option maxHeartbeats 8000000
namespace Go.Proofs.YtdncljdfmdgdaaaGreatDoor
open Go.RowKit Go.Shelf Go.WideMaps
def Cells5 (W:World) (g j:Nat) (kd:Int) (nm:Lx.Bytes) (vn ve vp:Value):Prop:=
 g<W.heap.size∧W.cell? ⟨g,j,none⟩=some (.int .i64 kd)∧W.cell? ⟨g,j+1,none⟩=some (.string ⟨nm.toArray⟩)∧W.cell? ⟨g,j+2,none⟩=some vn∧W.cell? ⟨g,j+3,none⟩=some ve∧W.cell? ⟨g,j+4,none⟩=some vp
theorem TyRow.spot {W0:World} {Ap:Option Addr} {k cp:Nat} {l:List Sx.Ty} (h:TyRow W0 (.slice Ap k cp) l) (m:Nat) (hm:m<l.length) :
  ∃g off An cn Ae ce Aq cq,Ap=some ⟨g,off,none⟩∧
   IsTy W0 (.agg #[.int .i64 (l[m]'hm).kind,.string ⟨(l[m]'hm).name.toArray⟩,.slice An (l[m]'hm).names.length cn,.slice Ae (l[m]'hm).embeds.length ce,.slice Aq (l[m]'hm).parts.length cq]) (l[m]'hm)∧
   ∀W,Below W0.heap.size W0 W→Cells5 W g (off+m * 5) (l[m]'hm).kind (l[m]'hm).name (.slice An (l[m]'hm).names.length cn) (.slice Ae (l[m]'hm).embeds.length ce) (.slice Aq (l[m]'hm).parts.length cq):=by
 obtain⟨A,c,hv,-,hl⟩:=h
 injection hv with h1 _ _
 subst h1
 obtain⟨g,off,v0,v1,v2,v3,v4,rfl,c0,c1,c2,c3,c4,ht⟩:=IsTys.at hl m hm
 obtain⟨vn,ve,vp,hagg,hsn,hse,hsp⟩:=ht.limbs
 obtain⟨An,cn,hvn,-⟩:=id hsn
 obtain⟨Ae,ce,hve,-⟩:=id hse
 obtain⟨Aq,cq,hvp,-,-⟩:=id hsp
 subst hvn hve hvp
 injection hagg with hagg
 simp only[Array.mk.injEq,List.cons.injEq,and_true]at hagg
 obtain⟨rfl,rfl,rfl,rfl,rfl⟩:=hagg
 rw[Nat.zero_add]at c0 c1 c2 c3 c4
 have hg:=World.block_lt_of_cell? W0 ⟨g,_,none⟩ c0
 refine⟨g,off,An,cn,Ae,ce,Aq,cq,rfl,ht,fun W hb=>?_⟩
 have up:∀ {j:Nat} {u:Value},W0.cell? ⟨g,j,none⟩=some u→W.cell? ⟨g,j,none⟩=some u:=fun {j u} hj=>(World.cell?_of_block (hb.block g hg)).trans hj
 exact⟨Nat.lt_of_lt_of_le hg hb.size,up c0,up c1,up c2,up c3,up c4⟩
theorem StrRow.cellAt {W0 W:World} {A:Option Addr} {k c:Nat} {l:List Lx.Bytes} (h:StrRow W0 (.slice A k c) l) (hb:Below W0.heap.size W0 W) (m:Nat) (hm:m<l.length) :
  ∃g off,A=some ⟨g,off,none⟩∧g<W.heap.size∧W.cell? ⟨g,off+m,none⟩=some (.string ⟨(l[m]'hm).toArray⟩):=by
 obtain⟨A',c',hv,hl⟩:=h
 injection hv with h1 _ _
 subst h1
 obtain⟨g,off,rfl,hc⟩:=hl m hm
 have hg:=World.block_lt_of_cell? W0 ⟨g,_,none⟩ hc
 exact⟨g,off,rfl,Nat.lt_of_lt_of_le hg hb.size,(World.cell?_of_block (hb.block g hg)).trans hc⟩
theorem BoolRow.cellAt {W0 W:World} {A:Option Addr} {k c:Nat} {l:List Bool} (h:BoolRow W0 (.slice A k c) l) (hb:Below W0.heap.size W0 W) (m:Nat) (hm:m<l.length) :
  ∃g off,A=some ⟨g,off,none⟩∧g<W.heap.size∧W.cell? ⟨g,off+m,none⟩=some (.bool (l[m]'hm)):=by
 obtain⟨A',c',hv,hl⟩:=h
 injection hv with h1 _ _
 subst h1
 obtain⟨g,off,rfl,hc⟩:=hl m hm
 have hg:=World.block_lt_of_cell? W0 ⟨g,_,none⟩ hc
 exact⟨g,off,rfl,Nat.lt_of_lt_of_le hg hb.size,(World.cell?_of_block (hb.block g hg)).trans hc⟩
theorem IsTy.agg {W:World} {v:Value} {t:Sx.Ty} (h:IsTy W v t):∃An cn Ae ce Ap cp,v=.agg #[.int .i64 t.kind,.string ⟨t.name.toArray⟩,.slice An t.names.length cn,.slice Ae t.embeds.length ce,.slice Ap t.parts.length cp]∧
  StrRow W (.slice An t.names.length cn) t.names∧BoolRow W (.slice Ae t.embeds.length ce) t.embeds∧TyRow W (.slice Ap t.parts.length cp) t.parts:=by
 obtain⟨vn,ve,vp,hagg,hsn,hse,hsp⟩:=h.limbs
 obtain⟨An,cn,hvn,-⟩:=id hsn
 obtain⟨Ae,ce,hve,-⟩:=id hse
 obtain⟨Ap,cp,hvp,-,-⟩:=id hsp
 subst hvn hve hvp
 exact⟨An,cn,Ae,ce,Ap,cp,hagg,hsn,hse,hsp⟩
/-! ### the tokens up to a part -/
def Sx.parL:Nat→List Sx.Ty→List Lx.Bytes
 | _,[]=>[]
 | i,t::l=>(if 0<i then [[44]]else [])++Sx.typ t++Sx.parL (i+1) l
theorem Sx.parL_append:∀(l m:List Sx.Ty) (i:Nat),Sx.parL i (l++m)=Sx.parL i l++Sx.parL (i+l.length) m
 | [],m,i=>by simp[Sx.parL]
 | t::l,m,i=>by
  rw[List.cons_append,Sx.parL,Sx.parL,Sx.parL_append l m (i+1)]
  rw[List.length_cons,show i+1+l.length=i+(l.length+1)by omega]
  simp[List.append_assoc]
theorem Sx.params_eq:∀(l:List Sx.Ty) (t:Sx.Ty) (i:Nat),Sx.params i (l++[t])=Sx.parL i l++[[41]]++Sx.typ t
 | [],t,i=>by simp[Sx.params,Sx.parL]
 | u::l,t,i=>by
  rw[List.cons_append,Sx.params,Sx.parL,Sx.params_eq l t (i+1)]
  rw[if_neg (by simp)]
  simp[List.append_assoc]
theorem Sx.parL_take {l:List Sx.Ty} {m:Nat} (h:m<l.length):Sx.parL 0 (l.take (m+1))=Sx.parL 0 (l.take m)++(if 0<m then [[44]]else [])++Sx.typ l[m]:=by
 rw[List.take_succ_eq_append_getElem h,Sx.parL_append,Nat.zero_add,List.length_take,Nat.min_eq_left (by omega)]
 simp[Sx.parL,List.append_assoc]
theorem Sx.sig_eq (t:Sx.Ty):Sx.signature t=[[40]]++Sx.params 0 t.parts:=by cases t;rw[Sx.signature];rfl
def TypOk (N:Sx.Names) (W0:World) (b:Nat) (t:Sx.Ty):Prop:=∀(d:Nat) (v:Value) (c:Nat) (l:List Lx.Bytes) (w:World),Sx.rightT N d t=true→IsTy W0 v t→Wrote W0 b c l w→c+10 * Sx.size t≤1000000000→
 Calls Tryz.prog 59 #[.pointer (some ⟨b,0,none⟩),v] w fun e w'=>e=.returned (.tuple #[])∧Wrote W0 b (c+(10 * Sx.size t-6)) (l++Sx.typ t) w'∧KeepW w w'
def SigOk (N:Sx.Names) (W0:World) (b:Nat) (t:Sx.Ty):Prop:=∀(d:Nat) (v:Value) (c:Nat) (l:List Lx.Bytes) (w:World),(∀p∈t.parts,Sx.rightT N d p=true)→t.parts≠[]→IsTy W0 v t→Wrote W0 b c l w→c+10 * Sx.size t≤1000000001→
 Calls Tryz.prog 109 #[.pointer (some ⟨b,0,none⟩),v] w fun e w'=>e=.returned (.tuple #[])∧Wrote W0 b (c+(10 * Sx.size t-7)) (l++Sx.signature t) w'∧KeepW w w'
theorem zveZ (N:Sx.Names) (W0:World) (b:Nat) (t:Sx.Ty) (ih:∀p∈t.parts,TypOk N W0 b p):SigOk N W0 b t:=by
 intro d v c l w hr Hu ht h hc
 obtain⟨An,cn,Ae,ce,Ap,cp,rfl,-,-,hp⟩:=ht.agg
 obtain⟨k,hk⟩:∃k,t.parts.length=k+1:=⟨t.parts.length-1,by have:=List.length_pos_iff.2 Hu;omega⟩
 have Hr:=Sx.size_parts t
 have Hm:=Sx.length_size t.parts
 have Jh:c+9≤1000000000:=by omega
 have Je:(k:Int)≤1000000000:=by omega
 have Jg:(0:Int)≤(k:Int):=by omega
 rw[hk]at hp ⊢
 have Jd:(k:Int)≤(cp:Int):=by
  obtain⟨A',c',e1,e2,-⟩:=hp
  injection e1 with _ _ e1
  omega
 have HP:=zh hp
 have HK:=zh hk
 have HR:=zh hr
 have Jb:=zh Hr
 have Ht:=zh ih
 obtain⟨L,hL⟩:=zE (w.heap.size)
 obtain⟨w2,hw2⟩:=zE (w.alloc (.cells #[.int .i64 t.kind,.string ⟨t.name.toArray⟩,.slice An t.names.length cn,.slice Ae t.embeds.length ce,.slice Ap (k+1) cp] 26))
 have H8:w2.heap[L]? =some (.cells #[.int .i64 t.kind,.string ⟨t.name.toArray⟩,.slice An t.names.length cn,.slice Ae t.embeds.length ce,.slice Ap (k+1) cp] 26 (0,0)):=by rw[←hw2,←hL];exact heap_alloc_new w _
 have hW2:Wrote W0 b c l w2:=by rw[←hw2];exact h.grown (World.grownBy_alloc w _ none)
 have Jc:=zh (show KeepW w w2 by rw[←hw2];exact KeepW.alloc w _)
 have Hz:=zh H8
 have J0:=zh hW2
 obtain⟨x0,x1,x2,x3,x4⟩:=zcZ H8
 have Jj:=zaZ H8
 have Ji:=hW2.lt
 clear hr Hu ht hp hk Hr Hm ih hW2 H8 h
 go_enter Tryz.func109, Tryz.ntmps109
 go_wp2_with (go_at_call 100;refine(put1 (s:=[40]) J0.o ⟨by simp,by simp⟩ (by omega)).mono ?_;rintro e w3 ⟨rfl,hW3,Hn⟩;have H1:=Hn _ _ _ _ Hz.o (by decide) (by decide);have Hl:=zh (Jc.o.trans Hn);have Hi:=zh hW3;clear x0 x1 x2 x3 x4 Hn hW3;obtain⟨x0,x1,x2,x3,x4⟩:=zcZ H1;have Jf:=zaZ H1;have Hc:=zh H1;clear H1;have Hw:=Hi.o.lt)
 have H3:=zh (show Wrote W0 b (c+1+10 * Sx.sizeL (t.parts.take 0)) (l++[[40]]++Sx.parL 0 (t.parts.take 0)) w3 from(Hi.o.mono (by omega)).cast (by simp[Sx.parL]))
 clear x0 x1 x2 x3 x4
 go_loopg [21] k (fun i v wr=>∃(m:Nat),i=k-m∧v=.int .i64 (m:Int)∧m≤k∧Wrote W0 b (c+1+10 * Sx.sizeL (t.parts.take m)) (l++[[40]]++Sx.parL 0 (t.parts.take m)) wr∧KeepW w3 wr)
 case atStart=>exact⟨0,rfl,rfl,Nat.zero_le _,H3.o,KeepW.refl _⟩
 case round=>
  obtain⟨m,hi,rfl,hm,hW,hkw⟩:=hrel
  have HI:=zh hi
  have Hq:=zh hW
  have m0:(0:Int)≤(m:Int):=by omega
  have H9:=hkw _ _ _ _ Hc.o (by decide) (by decide)
  have Hy:=zh (Hl.o.trans hkw)
  have J2:=zh hkw
  have Hs:=zh H9
  have J8:=hW.lt
  have Jl:=zaZ H9
  have hSL:=Sx.sizeL_take_le t.parts (m+1)
  have hSZ:1+Sx.sizeL t.parts≤Sx.size t:=by have:=Jb.o;omega
  clear hi hW hkw H3 Hi Hc
  by_cases hlt:m<k
  ·have J6:(m:Int)<(k:Int):=by omega
   have H2:m<t.parts.length:=by have:=HK.o;omega
   obtain⟨g,off,An1,cn1,Ae1,ce1,Aq,cq,rfl,hty,hc5⟩:=HP.o.spot m H2
   obtain⟨hg,c0,c1,c2,c3,c4⟩:=hc5 wr Hq.o.below
   clear hc5
   have H7:=Sx.size_take H2
   have Hp:=Sx.parL_take H2
   obtain⟨p,hpe⟩:=zE (t.parts[m]'H2)
   have H5:p∈t.parts:=by rw[←hpe];exact List.getElem_mem H2
   rw[hpe]at c0 c1 c2 c3 c4 hty H7 Hp
   have Hk:=Sx.size_pos p
   have Hh:=zh hty
   have J4:=zh Hp
   have H6:=zh H5
   obtain⟨sp,hsp⟩:=zE (Sx.size p)
   obtain⟨sm,hsm⟩:=zE (Sx.sizeL (t.parts.take m))
   rw[hsp,hsm]at H7
   rw[H7]at hSL
   rw[hsp]at Hk
   have Hb:=zh hsp
   have J1:=zh hsm
   have J5:=zh H7
   have Hf:c+2+10 * (sm+sp)≤1000000000:=by omega
   obtain⟨L4,hL4⟩:=zE (wr.heap.size)
   obtain⟨w4,hw4⟩:=zE (wr.alloc (.cells #[.int .i64 p.kind,.string ⟨p.name.toArray⟩,.slice An1 p.names.length cn1,.slice Ae1 p.embeds.length ce1,.slice Aq p.parts.length cq] 26))
   have H4:w4.heap[L4]? =some (.cells #[.int .i64 p.kind,.string ⟨p.name.toArray⟩,.slice An1 p.names.length cn1,.slice Ae1 p.embeds.length ce1,.slice Aq p.parts.length cq] 26 (0,0)):=by rw[←hw4,←hL4];exact heap_alloc_new wr _
   have Hg:=zh H4
   have Hv:=zh (show Wrote W0 b (c+1+10 * sm) (l++[[40]]++Sx.parL 0 (t.parts.take m)) w4 by rw[←hw4,←J1.o];exact Hq.o.grown (World.grownBy_alloc wr _ none))
   have J3:=zh (show KeepW wr w4 by rw[←hw4];exact KeepW.alloc wr _)
   have Jk:L4<w4.heap.size:=zaZ H4
   clear hty Hp H5 hpe hsp hsm H7 H4
   go_wp2_with (first
    | (go_at_call 131;refine(zemZ m Hv.o (by omega) (by omega)).mono ?_;rintro e w5 ⟨rfl,hW5,Ha⟩;have H0:=Ha _ _ _ _ Hg.o (by decide) (by decide);obtain⟨y0,y1,y2,y3,y4⟩:=zcZ H0;have J7:=zaZ H0;have Hd:=zh hW5;have Hj:=zh Ha;clear H0 hW5 Ha)
    | (go_at_call 59;refine(Ht.o p H6.o d _ _ _ w5 (HR.o p H6.o) Hh.o Hd.o (by rw[Hb.o];omega)).mono ?_;rintro e w6 ⟨rfl,hW6,Ho⟩))
   go_roundg (k-(m+1))
   case measure=>have:=HI.o;omega
   case rel=>
    refine⟨m+1,rfl,by simp,hlt,(hW6.mono ?_).cast ?_,((J2.o.trans J3.o).trans Hj.o).trans Ho⟩
    ·rw[J5.o,Hb.o];omega
    ·rw[J4.o];simp[List.append_assoc]
  ·have J6:¬(m:Int)<(k:Int):=by omega
   obtain rfl:m=k:=by omega
   have H2:m<t.parts.length:=by have:=HK.o;omega
   obtain⟨g,off,An1,cn1,Ae1,ce1,Aq,cq,rfl,hty,hc5⟩:=HP.o.spot m H2
   have H7:=Sx.size_take H2
   have He:Sx.signature t=[[40]]++Sx.parL 0 (t.parts.take m)++[[41]]++Sx.typ (t.parts[m]'H2):=by
    rw[Sx.sig_eq]
    conv=>lhs;rw[show t.parts=t.parts.take m++[t.parts[m]'H2]by rw[←List.take_succ_eq_append_getElem H2,List.take_of_length_le (by have:=HK.o;omega)]]
    rw[Sx.params_eq]
    simp[List.append_assoc]
   obtain⟨p,hpe⟩:=zE (t.parts[m]'H2)
   have H5:p∈t.parts:=by rw[←hpe];exact List.getElem_mem H2
   rw[hpe]at hc5 hty H7 He
   have Ja:=zh hc5
   have Hk:=Sx.size_pos p
   have Hh:=zh hty
   have J9:=zh He
   have H6:=zh H5
   obtain⟨sp,hsp⟩:=zE (Sx.size p)
   obtain⟨sm,hsm⟩:=zE (Sx.sizeL (t.parts.take m))
   rw[hsp,hsm]at H7
   rw[H7]at hSL
   rw[hsp]at Hk
   have Hb:=zh hsp
   have Hx:=zh (show Wrote W0 b (c+1+10 * sm) (l++[[40]]++Sx.parL 0 (t.parts.take m)) wr by rw[←hsm];exact Hq.o)
   have Hf:c+2+10 * (sm+sp)≤1000000000:=by omega
   obtain⟨x0,x1,x2,x3,x4⟩:=zcZ Hs.o
   clear hc5 hty He H5 hpe hsp hsm H7
   go_wp2_with (first
    | (go_at_call 100;refine(put1 (s:=[41]) Hx.o ⟨by simp,by simp⟩ (by omega)).mono ?_;rintro e w5 ⟨rfl,hW5,Ha⟩;have H0:=Ha _ _ _ _ Hs.o (by decide) (by decide);clear x0 x1 x2 x3 x4;obtain⟨y0,y1,y2,y3,y4⟩:=zcZ H0;have J7:=zaZ H0;have Hd:=zh hW5;have Hj:=zh Ha;clear H0 hW5 Ha;obtain⟨hg5,d0,d1,d2,d3,d4⟩:=Ja.o w5 Hd.o.below)
    | (go_at_call 59;refine(Ht.o p H6.o d _ _ _ w5 (HR.o p H6.o) Hh.o Hd.o (by rw[Hb.o];omega)).mono ?_;rintro e w6 ⟨rfl,hW6,Ho⟩))
   go_end0
   refine⟨rfl,(hW6.mono ?_).cast ?_,(Hy.o.trans Hj.o).trans Ho⟩
   ·rw[Hb.o];omega
   ·rw[J9.o];simp[List.append_assoc]
theorem Sx.rights_mem {N:Sx.Names} {d:Nat} : ∀ {l:List Sx.Ty},Sx.rightTs N d l=true→∀p∈l,Sx.rightT N d p=true
 | [],_,p,h=>by cases h
 | t::l,hr,p,h=>by
  rw[Sx.rightTs,Bool.and_eq_true]at hr
  rcases List.mem_cons.1 h with rfl | h
  ·exact hr.1
  ·exact Sx.rights_mem hr.2 p h
theorem Sx.right_parts {N:Sx.Names} {d:Nat} {t:Sx.Ty} (h:Sx.rightT N d t=true):∃e,d=e+1∧(∀p∈t.parts,Sx.rightT N e p=true)∧Sx.shape N t.kind t.name t.names t.embeds t.parts=true:=by
 cases t with
 | mk k n ns es ps=>
  cases d with
  | zero=>simp[Sx.rightT]at h
  | succ e=>
   rw[Sx.rightT,Bool.and_eq_true]at h
   exact⟨e,rfl,Sx.rights_mem h.1,h.2⟩
structure Sx.NamesOk (N:Sx.Names):Prop where
 small:∀s,N.small s=true→s≠[]
 great:∀s,N.great s=true→s≠[]
theorem Sx.apart_small {N:Sx.Names} : ∀ {l:List Lx.Bytes},Sx.apart N l=true→∀s∈l,N.small s=true
 | [],_,s,h=>by cases h
 | x::l,hr,s,h=>by
  rw[Sx.apart,Bool.and_eq_true,Bool.and_eq_true]at hr
  rcases List.mem_cons.1 h with rfl | h
  ·exact hr.1
  ·exact Sx.apart_small hr.2.2 s h
theorem Sx.typ_eq (t:Sx.Ty):Sx.typ t=(if t.kind=1 then [[105,110,116]]
  else if t.kind=2 then [[98,111,111,108]]
  else if t.kind=3 then [[116,101,120,116]]
  else if t.kind=4 then [t.name]
  else if t.kind=5 then [42]::Sx.typL t.parts
  else if t.kind=6 then [[123]]++Sx.fields t.names t.embeds t.parts++[[125]]
  else if t.kind=7 then [[102,110]]++([[40]]++Sx.params 0 t.parts)
  else if t.kind=8 then [[105,110,116,101,114,102,97,99,101],[123]]++Sx.methods t.names t.parts++[[125]]
  else []):=by cases t;rw[Sx.typ];rfl
theorem Sx.typL_head:∀ {l:List Sx.Ty} (h:0<l.length),Sx.typL l=Sx.typ (l[0]'h)
 | t::l,h=>by rw[Sx.typL];rfl
theorem Wrote.drew {W0 w:World} {b c:Nat} {l:List Lx.Bytes} (h:Wrote W0 b c l w):Wrote W0 b c l w.drew:=h.grown ⟨rfl,rfl,rfl,Nat.le_refl _,fun _ _ _=>rfl⟩
theorem ztoZ (N:Sx.Names) (hN:Sx.NamesOk N) (W0:World) (b:Nat) (t:Sx.Ty) (hkd:t.kind=1):TypOk N W0 b t:=by
 intro d v c l w hr ht h hc
 obtain⟨An,cn,Ae,ce,Ap,cp,rfl,hnm,hem,hp⟩:=ht.agg
 obtain⟨d',rfl,hr',hsh⟩:=Sx.right_parts hr
 rw[hkd]at hsh ht ⊢
 have H1:=Sx.size_parts t
 have Ha:c+10≤1000000000:=by omega
 have HT:=zh (show Sx.typ t=[[105,110,116]]by rw[Sx.typ_eq,hkd];simp)
 have HR:=zh hr'
 have H4:=zh H1
 have H9:=zh ht
 have HP:=zh hp
 obtain⟨L,hL⟩:=zE (w.heap.size)
 obtain⟨w2,hw2⟩:=zE (w.alloc (.cells #[.int .i64 1,.string ⟨t.name.toArray⟩,.slice An t.names.length cn,.slice Ae t.embeds.length ce,.slice Ap t.parts.length cp] 26))
 have H0:w2.heap[L]? =some (.cells #[.int .i64 1,.string ⟨t.name.toArray⟩,.slice An t.names.length cn,.slice Ae t.embeds.length ce,.slice Ap t.parts.length cp] 26 (0,0)):=by rw[←hw2,←hL];exact heap_alloc_new w _
 have hW2:Wrote W0 b c l w2:=by rw[←hw2];exact h.grown (World.grownBy_alloc w _ none)
 have H5:=zh (show KeepW w w2 by rw[←hw2];exact KeepW.alloc w _)
 have H7:=zh H0
 have H3:=zh hW2
 obtain⟨x0,x1,x2,x3,x4⟩:=zcZ H0
 have H8:=zaZ H0
 have H6:=hW2.lt
 clear hr hr' ht hp hnm hem H1 hW2 H0 h hsh hkd
 go_enter Tryz.func59, Tryz.ntmps59
 go_wp2_with (go_at_call 100;refine(put1 (s:=[105,110,116]) H3.o ⟨by simp,by simp⟩ (by omega)).mono ?_;rintro e w3 ⟨rfl,hW3,H2⟩)
 go_end0
 exact⟨rfl,(hW3.mono (by have:=H4.o;omega)).cast (by rw[HT.o]),H5.o.trans H2⟩
theorem ztpZ (N:Sx.Names) (hN:Sx.NamesOk N) (W0:World) (b:Nat) (t:Sx.Ty) (hkd:t.kind=2):TypOk N W0 b t:=by
 intro d v c l w hr ht h hc
 obtain⟨An,cn,Ae,ce,Ap,cp,rfl,hnm,hem,hp⟩:=ht.agg
 obtain⟨d',rfl,hr',hsh⟩:=Sx.right_parts hr
 rw[hkd]at hsh ht ⊢
 have H1:=Sx.size_parts t
 have Ha:c+10≤1000000000:=by omega
 have HT:=zh (show Sx.typ t=[[98,111,111,108]]by rw[Sx.typ_eq,hkd];simp)
 have HR:=zh hr'
 have H4:=zh H1
 have H9:=zh ht
 have HP:=zh hp
 obtain⟨L,hL⟩:=zE (w.heap.size)
 obtain⟨w2,hw2⟩:=zE (w.alloc (.cells #[.int .i64 2,.string ⟨t.name.toArray⟩,.slice An t.names.length cn,.slice Ae t.embeds.length ce,.slice Ap t.parts.length cp] 26))
 have H0:w2.heap[L]? =some (.cells #[.int .i64 2,.string ⟨t.name.toArray⟩,.slice An t.names.length cn,.slice Ae t.embeds.length ce,.slice Ap t.parts.length cp] 26 (0,0)):=by rw[←hw2,←hL];exact heap_alloc_new w _
 have hW2:Wrote W0 b c l w2:=by rw[←hw2];exact h.grown (World.grownBy_alloc w _ none)
 have H5:=zh (show KeepW w w2 by rw[←hw2];exact KeepW.alloc w _)
 have H7:=zh H0
 have H3:=zh hW2
 obtain⟨x0,x1,x2,x3,x4⟩:=zcZ H0
 have H8:=zaZ H0
 have H6:=hW2.lt
 clear hr hr' ht hp hnm hem H1 hW2 H0 h hsh hkd
 go_enter Tryz.func59, Tryz.ntmps59
 go_wp2_with (go_at_call 100;refine(put1 (s:=[98,111,111,108]) H3.o ⟨by simp,by simp⟩ (by omega)).mono ?_;rintro e w3 ⟨rfl,hW3,H2⟩)
 go_end0
 exact⟨rfl,(hW3.mono (by have:=H4.o;omega)).cast (by rw[HT.o]),H5.o.trans H2⟩
theorem ztqZ (N:Sx.Names) (hN:Sx.NamesOk N) (W0:World) (b:Nat) (t:Sx.Ty) (hkd:t.kind=3):TypOk N W0 b t:=by
 intro d v c l w hr ht h hc
 obtain⟨An,cn,Ae,ce,Ap,cp,rfl,hnm,hem,hp⟩:=ht.agg
 obtain⟨d',rfl,hr',hsh⟩:=Sx.right_parts hr
 rw[hkd]at hsh ht ⊢
 have H1:=Sx.size_parts t
 have Ha:c+10≤1000000000:=by omega
 have HT:=zh (show Sx.typ t=[[116,101,120,116]]by rw[Sx.typ_eq,hkd];simp)
 have HR:=zh hr'
 have H4:=zh H1
 have H9:=zh ht
 have HP:=zh hp
 obtain⟨L,hL⟩:=zE (w.heap.size)
 obtain⟨w2,hw2⟩:=zE (w.alloc (.cells #[.int .i64 3,.string ⟨t.name.toArray⟩,.slice An t.names.length cn,.slice Ae t.embeds.length ce,.slice Ap t.parts.length cp] 26))
 have H0:w2.heap[L]? =some (.cells #[.int .i64 3,.string ⟨t.name.toArray⟩,.slice An t.names.length cn,.slice Ae t.embeds.length ce,.slice Ap t.parts.length cp] 26 (0,0)):=by rw[←hw2,←hL];exact heap_alloc_new w _
 have hW2:Wrote W0 b c l w2:=by rw[←hw2];exact h.grown (World.grownBy_alloc w _ none)
 have H5:=zh (show KeepW w w2 by rw[←hw2];exact KeepW.alloc w _)
 have H7:=zh H0
 have H3:=zh hW2
 obtain⟨x0,x1,x2,x3,x4⟩:=zcZ H0
 have H8:=zaZ H0
 have H6:=hW2.lt
 clear hr hr' ht hp hnm hem H1 hW2 H0 h hsh hkd
 go_enter Tryz.func59, Tryz.ntmps59
 go_wp2_with (go_at_call 100;refine(put1 (s:=[116,101,120,116]) H3.o ⟨by simp,by simp⟩ (by omega)).mono ?_;rintro e w3 ⟨rfl,hW3,H2⟩)
 go_end0
 exact⟨rfl,(hW3.mono (by have:=H4.o;omega)).cast (by rw[HT.o]),H5.o.trans H2⟩
theorem ztrZ (N:Sx.Names) (hN:Sx.NamesOk N) (W0:World) (b:Nat) (t:Sx.Ty) (hkd:t.kind=4):TypOk N W0 b t:=by
 intro d v c l w hr ht h hc
 obtain⟨An,cn,Ae,ce,Ap,cp,rfl,hnm,hem,hp⟩:=ht.agg
 obtain⟨d',rfl,hr',hsh⟩:=Sx.right_parts hr
 rw[hkd]at hsh ht ⊢
 have H1:=Sx.size_parts t
 have Hc:c+10≤1000000000:=by omega
 have HT:=zh (show Sx.typ t=[t.name]by rw[Sx.typ_eq,hkd];simp)
 have hg:N.great t.name=true:=by simp[Sx.shape]at hsh;exact hsh.1.1.1
 have H2:=zh (hN.great _ hg)
 have H4:t.name.length≤1000000000:=by omega
 clear hg
 have HR:=zh hr'
 have H8:=zh H1
 have Hb:=zh ht
 have HP:=zh hp
 obtain⟨L,hL⟩:=zE (w.heap.size)
 obtain⟨w2,hw2⟩:=zE (w.alloc (.cells #[.int .i64 4,.string ⟨t.name.toArray⟩,.slice An t.names.length cn,.slice Ae t.embeds.length ce,.slice Ap t.parts.length cp] 26))
 have H0:w2.heap[L]? =some (.cells #[.int .i64 4,.string ⟨t.name.toArray⟩,.slice An t.names.length cn,.slice Ae t.embeds.length ce,.slice Ap t.parts.length cp] 26 (0,0)):=by rw[←hw2,←hL];exact heap_alloc_new w _
 have hW2:Wrote W0 b c l w2:=by rw[←hw2];exact h.grown (World.grownBy_alloc w _ none)
 have H9:=zh (show KeepW w w2 by rw[←hw2];exact KeepW.alloc w _)
 have Ha:=zh H0
 have H3:=zh hW2
 obtain⟨x0,x1,x2,x3,x4⟩:=zcZ H0
 have He:=zaZ H0
 have Hd:=hW2.lt
 clear hr hr' ht hp hnm hem H1 hW2 H0 h hsh hkd
 go_enter Tryz.func59, Tryz.ntmps59
 go_wp2_with fail
 have H5:=zh H3.o.drew
 have H6:=zh (H9.o.trans (KeepW.drew w2))
 go_region_with (go_at_call 100;refine(put1 (s:=t.name) H5.o ⟨H2.o,H4⟩ (by omega)).mono ?_;rintro e w4 ⟨rfl,hW4,H7⟩)
 go_end0
 exact⟨rfl,(hW4.mono (by have:=H8.o;omega)).cast (by rw[HT.o]),H6.o.trans H7⟩
theorem ztsZ (N:Sx.Names) (hN:Sx.NamesOk N) (W0:World) (b:Nat) (t:Sx.Ty) (ih:∀p∈t.parts,TypOk N W0 b p) (hkd:t.kind=5):TypOk N W0 b t:=by
 intro d v c l w hr ht h hc
 obtain⟨An,cn,Ae,ce,Ap,cp,rfl,hnm,hem,hp⟩:=ht.agg
 obtain⟨d',rfl,hr',hsh⟩:=Sx.right_parts hr
 rw[hkd]at hsh ht ⊢
 have H6:=Sx.size_parts t
 have Hl:c+10≤1000000000:=by omega
 have H2:0<t.parts.length:=by simp[Sx.shape]at hsh;omega
 obtain⟨g,off,An1,cn1,Ae1,ce1,Aq,cq,rfl,hty,hc5⟩:=hp.spot 0 H2
 have HT:=zh (show Sx.typ t=[42]::Sx.typ (t.parts[0]'H2)by
  rw[Sx.typ_eq,hkd,Sx.typL_head H2]
  simp)
 have Ha:=Sx.size_mem (List.getElem_mem H2)
 obtain⟨p,hpe⟩:=zE (t.parts[0]'H2)
 have H3:p∈t.parts:=by rw[←hpe];exact List.getElem_mem H2
 rw[hpe]at hty hc5 Ha HT
 have Hq:=Sx.size_pos p
 have Hg:=zh hty
 have Hi:=zh hc5
 have H4:=zh H3
 have He:=zh ih
 have Hm:=zh H2
 have Hh:(0:Int)<(t.parts.length:Int):=by omega
 have Hb:c+10 * (1+Sx.size p)≤1000000000:=by omega
 have H9:1+Sx.size p≤Sx.size t:=by omega
 clear hty hc5 hpe H3 ih Ha H2
 have HR:=zh hr'
 have Hr:=zh H6
 have Hk:=zh ht
 have HP:=zh hp
 obtain⟨L,hL⟩:=zE (w.heap.size)
 obtain⟨w2,hw2⟩:=zE (w.alloc (.cells #[.int .i64 5,.string ⟨t.name.toArray⟩,.slice An t.names.length cn,.slice Ae t.embeds.length ce,.slice (some ⟨g,off,none⟩) t.parts.length cp] 26))
 have H1:w2.heap[L]? =some (.cells #[.int .i64 5,.string ⟨t.name.toArray⟩,.slice An t.names.length cn,.slice Ae t.embeds.length ce,.slice (some ⟨g,off,none⟩) t.parts.length cp] 26 (0,0)):=by rw[←hw2,←hL];exact heap_alloc_new w _
 have hW2:Wrote W0 b c l w2:=by rw[←hw2];exact h.grown (World.grownBy_alloc w _ none)
 have Hj:=zh (show KeepW w w2 by rw[←hw2];exact KeepW.alloc w _)
 have H7:=zh H1
 have Hc:=zh hW2
 obtain⟨x0,x1,x2,x3,x4⟩:=zcZ H1
 have Ho:=zaZ H1
 have Hn:=hW2.lt
 clear hr hr' ht hp hnm hem H6 hW2 H1 h hsh hkd
 clear x0 x1 x2 x3 x4
 obtain⟨x0,x1,x2,x3,x4⟩:=zcZ H7.o
 go_enter Tryz.func59, Tryz.ntmps59
 go_wp2_with (first
  | (go_at_call 100;refine(put1 (s:=[42]) Hc.o ⟨by simp,by simp⟩ (by omega)).mono ?_;rintro e w5 ⟨rfl,hW5,H5⟩;have H0:=H5 _ _ _ _ H7.o (by decide) (by decide);clear x0 x1 x2 x3 x4;obtain⟨y0,y1,y2,y3,y4⟩:=zcZ H0;have Hp:=zaZ H0;have H8:=zh hW5;have Hd:=zh H5;clear H0 hW5 H5;obtain⟨hg5,d0,d1,d2,d3,d4⟩:=Hi.o w5 H8.o.below;rw[Nat.zero_mul,Nat.add_zero]at d0 d1 d2 d3 d4)
  | (go_at_call 59;refine(He.o p H4.o d' _ _ _ w5 (HR.o p H4.o) Hg.o H8.o (by omega)).mono ?_;rintro e w6 ⟨rfl,hW6,Hf⟩))
 go_end0
 refine⟨rfl,(hW6.mono ?_).cast ?_,(Hj.o.trans Hd.o).trans Hf⟩
 ·omega
 ·rw[HT.o];simp[List.append_assoc]
theorem zttZ (N:Sx.Names) (hN:Sx.NamesOk N) (W0:World) (b:Nat) (t:Sx.Ty) (hsig:SigOk N W0 b t) (hkd:t.kind=7):TypOk N W0 b t:=by
 intro d v c l w hr ht h hc
 obtain⟨An,cn,Ae,ce,Ap,cp,rfl,hnm,hem,hp⟩:=ht.agg
 obtain⟨d',rfl,hr',hsh⟩:=Sx.right_parts hr
 rw[hkd]at hsh ht ⊢
 have H3:=Sx.size_parts t
 have Hc:c+10≤1000000000:=by omega
 have H4:=zh (show t.parts≠[]by rintro e;simp[Sx.shape,e]at hsh)
 have HT:=zh (show Sx.typ t=[[102,110]]++Sx.signature t by rw[Sx.typ_eq,hkd,Sx.sig_eq];simp)
 have HS:=zh hsig
 have Hg:=Sx.size_pos t
 clear hsig
 have HR:=zh hr'
 have Hh:=zh H3
 have H7:=zh ht
 have HP:=zh hp
 obtain⟨L,hL⟩:=zE (w.heap.size)
 obtain⟨w2,hw2⟩:=zE (w.alloc (.cells #[.int .i64 7,.string ⟨t.name.toArray⟩,.slice An t.names.length cn,.slice Ae t.embeds.length ce,.slice Ap t.parts.length cp] 26))
 have H1:w2.heap[L]? =some (.cells #[.int .i64 7,.string ⟨t.name.toArray⟩,.slice An t.names.length cn,.slice Ae t.embeds.length ce,.slice Ap t.parts.length cp] 26 (0,0)):=by rw[←hw2,←hL];exact heap_alloc_new w _
 have hW2:Wrote W0 b c l w2:=by rw[←hw2];exact h.grown (World.grownBy_alloc w _ none)
 have Hb:=zh (show KeepW w w2 by rw[←hw2];exact KeepW.alloc w _)
 have H5:=zh H1
 have H6:=zh hW2
 obtain⟨x0,x1,x2,x3,x4⟩:=zcZ H1
 have He:=zaZ H1
 have Hd:=hW2.lt
 clear hr hr' ht hp hnm hem H3 hW2 H1 h hsh hkd
 go_enter Tryz.func59, Tryz.ntmps59
 go_wp2_with (first
  | (go_at_call 100;refine(put1 (s:=[102,110]) H6.o ⟨by simp,by simp⟩ (by omega)).mono ?_;rintro e w5 ⟨rfl,hW5,H2⟩;have H0:=H2 _ _ _ _ H5.o (by decide) (by decide);clear x0 x1 x2 x3 x4;obtain⟨y0,y1,y2,y3,y4⟩:=zcZ H0;have Hf:=zaZ H0;have H9:=zh hW5;have H8:=zh H2;clear H0 hW5 H2)
  | (go_at_call 109;refine(HS.o d' _ _ _ w5 HR.o H4.o H7.o H9.o (by omega)).mono ?_;rintro e w6 ⟨rfl,hW6,Ha⟩))
 go_end0
 refine⟨rfl,(hW6.mono ?_).cast ?_,(Hb.o.trans H8.o).trans Ha⟩
 ·omega
 ·rw[HT.o];simp[List.append_assoc]
theorem StrRow.spot {W0:World} {A:Option Addr} {k c:Nat} {l:List Lx.Bytes} (h:StrRow W0 (.slice A k c) l) (m:Nat) (hm:m<l.length) :
  ∃g off,A=some ⟨g,off,none⟩∧∀W,Below W0.heap.size W0 W→g<W.heap.size∧W.cell? ⟨g,off+m,none⟩=some (.string ⟨(l[m]'hm).toArray⟩):=by
 obtain⟨A',c',hv,hl⟩:=h
 injection hv with h1 _ _
 subst h1
 obtain⟨g,off,rfl,hc⟩:=hl m hm
 have hg:=World.block_lt_of_cell? W0 ⟨g,_,none⟩ hc
 exact⟨g,off,rfl,fun W hb=>⟨Nat.lt_of_lt_of_le hg hb.size,(World.cell?_of_block (hb.block g hg)).trans hc⟩⟩
theorem BoolRow.spot {W0:World} {A:Option Addr} {k c:Nat} {l:List Bool} (h:BoolRow W0 (.slice A k c) l) (m:Nat) (hm:m<l.length) :
  ∃g off,A=some ⟨g,off,none⟩∧∀W,Below W0.heap.size W0 W→g<W.heap.size∧W.cell? ⟨g,off+m,none⟩=some (.bool (l[m]'hm)):=by
 obtain⟨A',c',hv,hl⟩:=h
 injection hv with h1 _ _
 subst h1
 obtain⟨g,off,rfl,hc⟩:=hl m hm
 have hg:=World.block_lt_of_cell? W0 ⟨g,_,none⟩ hc
 exact⟨g,off,rfl,fun W hb=>⟨Nat.lt_of_lt_of_le hg hb.size,(World.cell?_of_block (hb.block g hg)).trans hc⟩⟩
theorem Sx.fields_append:∀(ns:List Lx.Bytes) (es:List Bool) (ps:List Sx.Ty) (n:Lx.Bytes) (e:Bool) (p:Sx.Ty),ns.length=ps.length→es.length=ps.length→
  Sx.fields (ns++[n]) (es++[e]) (ps++[p])=Sx.fields ns es ps++((if e then [[101,109,98,101,100]]else [])++([n]++Sx.typ p++[[59]]))
 | [],[],[],n,e,p,_,_=>by simp[Sx.fields]
 | a::ns,b::es,t::ps,n,e,p,h1,h2=>by
  rw[List.cons_append,List.cons_append,List.cons_append,Sx.fields,Sx.fields,Sx.fields_append ns es ps n e p (by simpa using h1) (by simpa using h2)]
  simp[List.append_assoc]
 | [],_,_::_,_,_,_,h1,_=>by simp at h1
 | _::_,_,[],_,_,_,h1,_=>by simp at h1
 | _,[],_::_,_,_,_,_,h2=>by simp at h2
 | _,_::_,[],_,_,_,_,h2=>by simp at h2
theorem Sx.fields_take {ns:List Lx.Bytes} {es:List Bool} {ps:List Sx.Ty} {m:Nat} (h1:ns.length=ps.length) (h2:es.length=ps.length) (hm:m<ps.length) :
  Sx.fields (ns.take (m+1)) (es.take (m+1)) (ps.take (m+1))=Sx.fields (ns.take m) (es.take m) (ps.take m)++((if es[m]'(by omega)then [[101,109,98,101,100]]else [])++([ns[m]'(by omega)]++Sx.typ ps[m]++[[59]])):=by
 rw[List.take_succ_eq_append_getElem hm,List.take_succ_eq_append_getElem (show m<ns.length by omega),List.take_succ_eq_append_getElem (show m<es.length by omega)]
 exact Sx.fields_append _ _ _ _ _ _ (by simp;omega) (by simp;omega)
theorem Sx.methods_append:∀(ns:List Lx.Bytes) (ps:List Sx.Ty) (n:Lx.Bytes) (p:Sx.Ty),ns.length=ps.length→
  Sx.methods (ns++[n]) (ps++[p])=Sx.methods ns ps++([n]++Sx.signature p++[[59]])
 | [],[],n,p,_=>by simp[Sx.methods]
 | a::ns,t::ps,n,p,h1=>by
  rw[List.cons_append,List.cons_append,Sx.methods,Sx.methods,Sx.methods_append ns ps n p (by simpa using h1)]
  simp[List.append_assoc]
 | [],_::_,_,_,h1=>by simp at h1
 | _::_,[],_,_,h1=>by simp at h1
theorem Sx.methods_take {ns:List Lx.Bytes} {ps:List Sx.Ty} {m:Nat} (h1:ns.length=ps.length) (hm:m<ps.length) :
  Sx.methods (ns.take (m+1)) (ps.take (m+1))=Sx.methods (ns.take m) (ps.take m)++([ns[m]'(by omega)]++Sx.signature ps[m]++[[59]]):=by
 rw[List.take_succ_eq_append_getElem hm,List.take_succ_eq_append_getElem (show m<ns.length by omega)]
 exact Sx.methods_append _ _ _ _ (by simp;omega)
theorem Sx.le_sum:∀ {l:List Lx.Bytes} {s:Lx.Bytes},s∈l→s.length≤(l.map List.length).sum
 | x::l,s,h=>by
  rw[List.map_cons,List.sum_cons]
  rcases List.mem_cons.1 h with rfl | h
  ·omega
  ·have:=Sx.le_sum h;omega
theorem Sx.name_len {t:Sx.Ty} {s:Lx.Bytes} (h:s∈t.names):s.length≤Sx.size t:=by
 have h1:=Sx.size_parts t
 have h2:=Sx.le_sum h
 omega
theorem ztuZ (N:Sx.Names) (hN:Sx.NamesOk N) (W0:World) (b:Nat) (t:Sx.Ty) (ih:∀p∈t.parts,TypOk N W0 b p) (hkd:t.kind=6):TypOk N W0 b t:=by
 intro d v c l w hr ht h hc
 obtain⟨An,cn,Ae,ce,Ap,cp,rfl,hnm,hem,hp⟩:=ht.agg
 obtain⟨d',rfl,hr',hsh⟩:=Sx.right_parts hr
 rw[hkd]at hsh ht ⊢
 have Ja:=Sx.size_parts t
 have U7:c+10≤1000000000:=by omega
 have Jf:t.names.length=t.parts.length:=by simp[Sx.shape]at hsh;omega
 have J9:t.embeds.length=t.parts.length:=by simp[Sx.shape]at hsh;omega
 have Ju:=zh (show ∀s∈t.names,N.small s=true from Sx.apart_small (by simp[Sx.shape]at hsh;exact hsh.2))
 have HT:=zh (show Sx.typ t=[[123]]++Sx.fields t.names t.embeds t.parts++[[125]]by rw[Sx.typ_eq,hkd];simp)
 have Ji:=zh hem
 have Hp:=zh J9
 have Jn:=zh hnm
 have Hv:=zh Jf
 have J7:=zh ih
 have Jk:=Sx.length_size t.parts
 obtain⟨k,hk⟩:=zE (t.parts.length)
 have U5:(k:Int)≤1000000000:=by omega
 rw[hk]at hp ht ⊢
 have HK:=zh hk
 have HR:=zh hr'
 have U2:=zh Ja
 have U6:=zh ht
 have HP:=zh hp
 obtain⟨L,hL⟩:=zE (w.heap.size)
 obtain⟨w2,hw2⟩:=zE (w.alloc (.cells #[.int .i64 6,.string ⟨t.name.toArray⟩,.slice An t.names.length cn,.slice Ae t.embeds.length ce,.slice Ap k cp] 26))
 have H5:w2.heap[L]? =some (.cells #[.int .i64 6,.string ⟨t.name.toArray⟩,.slice An t.names.length cn,.slice Ae t.embeds.length ce,.slice Ap k cp] 26 (0,0)):=by rw[←hw2,←hL];exact heap_alloc_new w _
 have hW2:Wrote W0 b c l w2:=by rw[←hw2];exact h.grown (World.grownBy_alloc w _ none)
 have Jl:=zh (show KeepW w w2 by rw[←hw2];exact KeepW.alloc w _)
 have Jr:=zh H5
 have Jy:=zh hW2
 obtain⟨x0,x1,x2,x3,x4⟩:=zcZ H5
 have Ub:=zaZ H5
 have U4:=hW2.lt
 clear ih Jf J9 hk hr hr' ht hp hnm hem Ja hW2 H5 h hsh hkd
 go_enter Tryz.func59, Tryz.ntmps59
 go_wp2_with (go_at_call 100;refine(put1 (s:=[123]) Jy.o ⟨by simp,by simp⟩ (by omega)).mono ?_;rintro e w3 ⟨rfl,hW3,J2⟩;have H1:=J2 _ _ _ _ Jr.o (by decide) (by decide);clear x0 x1 x2 x3 x4;obtain⟨x0,x1,x2,x3,x4⟩:=zcZ H1;have Ua:=zaZ H1;have Je:=zh hW3;have Jj:=zh (Jl.o.trans J2);have Hk:=zh H1;clear H1 hW3 J2)
 have H3:=zh (show Wrote W0 b (c+1+10 * Sx.sizeL (t.parts.take 0)) (l++[[123]]++Sx.fields (t.names.take 0) (t.embeds.take 0) (t.parts.take 0)) w3 from(Je.o.mono (by omega)).cast (by simp[Sx.fields,Sx.methods]))
 clear x0 x1 x2 x3 x4
 go_loopg [63] k (fun i v wr=>∃(m:Nat),i=k-m∧v=.int .i64 (m:Int)∧m≤k∧Wrote W0 b (c+1+10 * Sx.sizeL (t.parts.take m)) (l++[[123]]++Sx.fields (t.names.take m) (t.embeds.take m) (t.parts.take m)) wr∧KeepW w3 wr)
 case atStart=>exact⟨0,rfl,rfl,Nat.zero_le _,H3.o,KeepW.refl _⟩
 case round=>
  obtain⟨m,hi,rfl,hm,hW,hkw⟩:=hrel
  have HI:=zh hi
  have J3:=zh hW
  have m0:(0:Int)≤(m:Int):=by omega
  have H8:=hkw _ _ _ _ Hk.o (by decide) (by decide)
  have U0:=zh H8
  have Ho:=zh hkw
  have Jp:=hW.lt
  have Uc:=zaZ H8
  have hSL:=Sx.sizeL_take_le t.parts (m+1)
  have hSL0:=Sx.sizeL_take_le t.parts m
  have hSZ:1+Sx.sizeL t.parts≤Sx.size t:=by have:=U2.o;omega
  clear hi hW hkw H3 Je Hk
  by_cases hlt:m<k
  ·have Jv:(m:Int)<(k:Int):=by omega
   have Hg:m<t.parts.length:=by have:=HK.o;omega
   have Ht:m<t.names.length:=by have:=Hv.o;omega
   have Jg:(m:Int)<(t.names.length:Int):=by omega
   have Jc:m<t.embeds.length:=by have:=Hp.o;omega
   have Jt:(m:Int)<(t.embeds.length:Int):=by omega
   obtain⟨g,off,An1,cn1,Ae1,ce1,Aq,cq,rfl,hty,hc5⟩:=HP.o.spot m Hg
   obtain⟨g1,off1,rfl,hsp1⟩:=Jn.o.spot m Ht
   obtain⟨g2,off2,rfl,hsp2⟩:=Ji.o.spot m Jc
   have Hm:=Sx.size_take Hg
   have He:=Sx.fields_take Hv.o Hp.o Hg
   obtain⟨p,hpe⟩:=zE (t.parts[m]'Hg)
   obtain⟨s,hse⟩:=zE (t.names[m]'Ht)
   have Hl:p∈t.parts:=by rw[←hpe];exact List.getElem_mem Hg
   have Hb:s∈t.names:=by rw[←hse];exact List.getElem_mem Ht
   have J5:s.length≤1000000000:=by have:=Sx.name_len Hb;omega
   have J4:=zh (hN.small _ (Ju.o s Hb))
   rw[hpe]at hc5 hty Hm He
   rw[hse]at hsp1 He
   obtain⟨hg,c0,c1,c2,c3,c4⟩:=hc5 wr J3.o.below
   have U1:=Sx.size_pos p
   have Hj:=zh hty
   have H4:=zh Hl
   have Jb:=zh hsp1
   obtain⟨e,hee⟩:=zE (t.embeds[m]'Jc)
   rw[hee]at hsp2 He
   have Jm:=zh hsp2
   have Jd:=zh He
   obtain⟨sp,hsp⟩:=zE (Sx.size p)
   obtain⟨sm,hsm⟩:=zE (Sx.sizeL (t.parts.take m))
   rw[hsp,hsm]at Hm
   rw[Hm]at hSL
   rw[hsp]at U1
   have Hn:=zh hsp
   have J8:=zh Hm
   have Jh:=zh hsm
   have Hu:c+10+10 * (sm+sp)≤1000000000:=by omega
   obtain⟨L4,hL4⟩:=zE (wr.heap.size)
   obtain⟨w4,hw4⟩:=zE (wr.alloc (.cells #[.int .i64 p.kind,.string ⟨p.name.toArray⟩,.slice An1 p.names.length cn1,.slice Ae1 p.embeds.length ce1,.slice Aq p.parts.length cq] 26))
   have H2:w4.heap[L4]? =some (.cells #[.int .i64 p.kind,.string ⟨p.name.toArray⟩,.slice An1 p.names.length cn1,.slice Ae1 p.embeds.length ce1,.slice Aq p.parts.length cq] 26 (0,0)):=by rw[←hw4,←hL4];exact heap_alloc_new wr _
   have H9:=zh H2
   have Hi:=zh (show Wrote W0 b (c+1+10 * sm) (l++[[123]]++Sx.fields (t.names.take m) (t.embeds.take m) (t.parts.take m)) w4 by rw[←hw4,←Jh.o];exact J3.o.grown (World.grownBy_alloc wr _ none))
   have Hr:=zh (show KeepW wr w4 by rw[←hw4];exact KeepW.alloc wr _)
   have H6:=zh (Hr.o _ _ _ _ U0.o (by decide) (by decide))
   have U8:L4<w4.heap.size:=zaZ H2
   have Jw:L<w4.heap.size:=zaZ H6.o
   have Jq:b<w4.heap.size:=Hi.o.lt
   clear hty He Hl hpe hsp hsm Hm H2 hse Hb hc5 hsp1 hsp2 hee
   obtain⟨x0,x1,x2,x3,x4⟩:=zcZ H6.o
   obtain⟨z0,z1⟩:=Jm.o w4 Hi.o.below
   cases e with
   | true=>
    go_wp2_with (go_at_call 100;refine(put1 (s:=[101,109,98,101,100]) Hi.o ⟨by simp,by simp⟩ (by omega)).mono ?_;rintro e w5 ⟨rfl,hW5,Hd⟩;have Hh:=zh (Hd _ _ _ _ H6.o (by decide) (by decide));have Ha:=zh (Hd _ _ _ _ H9.o (by decide) (by decide));clear x0 x1 x2 x3 x4 z0 z1;have J6:=zh hW5;have Jz:=zh Hd;have U9:=zaZ Ha.o;have U3:=zaZ Hh.o;have Jo:=hW5.lt;clear hW5 Hd)
    obtain⟨x0,x1,x2,x3,x4⟩:=zcZ Hh.o
    obtain⟨y0,y1,y2,y3,y4⟩:=zcZ Ha.o
    obtain⟨q0,q1⟩:=Jb.o w5 J6.o.below
    have Hq:=zh J6.o.drew
    go_region_with (go_at_call 100;refine(put1 (s:=s) Hq.o ⟨J4.o,J5⟩ (by omega)).mono ?_;rintro e w6 ⟨rfl,hW6,Hc⟩)
    all_goals
     have H0:=Hc _ _ _ _ Ha.o (by decide) (by decide)
     clear x0 x1 x2 x3 x4 y0 y1 y2 y3 y4 q0 q1
     obtain⟨y0,y1,y2,y3,y4⟩:=zcZ H0
     have Js:=zaZ H0
     have J1:=zh hW6
     have Hs:=zh Hc
     have Hy:=hW6.lt
     clear H0 hW6 Hc
     go_wp2_with (first
      | (go_at_call 59;refine(J7.o p H4.o d' _ _ _ w6 (HR.o p H4.o) Hj.o J1.o (by rw[Hn.o];omega)).mono ?_;rintro e w7 ⟨rfl,hW7,Hf⟩;rw[Hn.o]at hW7;have J0:=zh hW7;have Hw:=zh Hf;have Hx:=hW7.lt;clear hW7 Hf)
      | (go_at_call 100;refine(put1 (s:=[59]) J0.o ⟨by simp,by simp⟩ (by omega)).mono ?_;rintro e w8 ⟨rfl,hW8,Hz⟩))
     go_roundg (k-(m+1))
     case measure=>have:=HI.o;omega
     case rel=>
      refine⟨m+1,rfl,by simp,hlt,(hW8.mono ?_).cast ?_,((((Ho.o.trans Hr.o).trans Jz.o).trans Hs.o).trans Hw.o).trans Hz⟩
      ·rw[J8.o];omega
      ·rw[Jd.o];simp[List.append_assoc]
   | false=>
    go_wp2_with fail
    clear x0 x1 x2 x3 x4 z0 z1
    obtain⟨x0,x1,x2,x3,x4⟩:=zcZ H6.o
    obtain⟨y0,y1,y2,y3,y4⟩:=zcZ H9.o
    obtain⟨q0,q1⟩:=Jb.o w4 Hi.o.below
    have Hq:=zh Hi.o.drew
    go_region_with (go_at_call 100;refine(put1 (s:=s) Hq.o ⟨J4.o,J5⟩ (by omega)).mono ?_;rintro e w6 ⟨rfl,hW6,Hc⟩)
    all_goals
     have H0:=Hc _ _ _ _ H9.o (by decide) (by decide)
     clear x0 x1 x2 x3 x4 y0 y1 y2 y3 y4 q0 q1
     obtain⟨y0,y1,y2,y3,y4⟩:=zcZ H0
     have Js:=zaZ H0
     have J1:=zh hW6
     have Hs:=zh Hc
     have Hy:=hW6.lt
     clear H0 hW6 Hc
     go_wp2_with (first
      | (go_at_call 59;refine(J7.o p H4.o d' _ _ _ w6 (HR.o p H4.o) Hj.o J1.o (by rw[Hn.o];omega)).mono ?_;rintro e w7 ⟨rfl,hW7,Hf⟩;rw[Hn.o]at hW7;have J0:=zh hW7;have Hw:=zh Hf;have Hx:=hW7.lt;clear hW7 Hf)
      | (go_at_call 100;refine(put1 (s:=[59]) J0.o ⟨by simp,by simp⟩ (by omega)).mono ?_;rintro e w8 ⟨rfl,hW8,Hz⟩))
     go_roundg (k-(m+1))
     case measure=>have:=HI.o;omega
     case rel=>
      refine⟨m+1,rfl,by simp,hlt,(hW8.mono ?_).cast ?_,((((Ho.o.trans Hr.o)).trans Hs.o).trans Hw.o).trans Hz⟩
      ·rw[J8.o];omega
      ·rw[Jd.o];simp[List.append_assoc]
  ·have Jv:¬(m:Int)<(k:Int):=by omega
   have H7:Sx.fields (t.names.take m) (t.embeds.take m) (t.parts.take m)=Sx.fields t.names t.embeds t.parts:=by
    rw[List.take_of_length_le (show t.names.length≤m by have:=HK.o;have:=Hv.o;omega),List.take_of_length_le (show t.parts.length≤m by have:=HK.o;omega),List.take_of_length_le (show t.embeds.length≤m by have:=HK.o;have:=Hp.o;omega)]
   have Jx:=zh H7
   have Hu:c+10+10 * Sx.sizeL (t.parts.take m)≤1000000000:=by omega
   clear H7
   go_wp2_with (go_at_call 100;refine(put1 (s:=[125]) J3.o ⟨by simp,by simp⟩ (by omega)).mono ?_;rintro e w5 ⟨rfl,hW5,Hd⟩)
   go_end0
   refine⟨rfl,(hW5.mono ?_).cast ?_,(Jj.o.trans Ho.o).trans Hd⟩
   ·omega
   ·rw[HT.o,Jx.o];simp[List.append_assoc]
theorem ztvZ (N:Sx.Names) (hN:Sx.NamesOk N) (W0:World) (b:Nat) (t:Sx.Ty) (ih:∀p∈t.parts,SigOk N W0 b p) (hkd:t.kind=8):TypOk N W0 b t:=by
 intro d v c l w hr ht h hc
 obtain⟨An,cn,Ae,ce,Ap,cp,rfl,hnm,hem,hp⟩:=ht.agg
 obtain⟨d',rfl,hr',hsh⟩:=Sx.right_parts hr
 rw[hkd]at hsh ht ⊢
 have Hs:=Sx.size_parts t
 have Jw:c+10≤1000000000:=by omega
 have Hu:t.names.length=t.parts.length:=by simp[Sx.shape]at hsh;omega
 have Jh:=zh (show ∀s∈t.names,N.small s=true from Sx.apart_small (by simp[Sx.shape]at hsh;exact hsh.2.2))
 have J7:=zh (show ∀p∈t.parts,p.kind=7 by simp[Sx.shape]at hsh;exact hsh.1)
 have HT:=zh (show Sx.typ t=[[105,110,116,101,114,102,97,99,101],[123]]++Sx.methods t.names t.parts++[[125]]by rw[Sx.typ_eq,hkd];simp)
 have J8:=zh hnm
 have Hj:=zh Hu
 have J2:=zh ih
 have J1:=Sx.length_size t.parts
 obtain⟨k,hk⟩:=zE (t.parts.length)
 have Ju:(k:Int)≤1000000000:=by omega
 rw[hk]at hp ht ⊢
 have HK:=zh hk
 have HR:=zh hr'
 have Js:=zh Hs
 have Jv:=zh ht
 have HP:=zh hp
 obtain⟨L,hL⟩:=zE (w.heap.size)
 obtain⟨w2,hw2⟩:=zE (w.alloc (.cells #[.int .i64 8,.string ⟨t.name.toArray⟩,.slice An t.names.length cn,.slice Ae t.embeds.length ce,.slice Ap k cp] 26))
 have H4:w2.heap[L]? =some (.cells #[.int .i64 8,.string ⟨t.name.toArray⟩,.slice An t.names.length cn,.slice Ae t.embeds.length ce,.slice Ap k cp] 26 (0,0)):=by rw[←hw2,←hL];exact heap_alloc_new w _
 have hW2:Wrote W0 b c l w2:=by rw[←hw2];exact h.grown (World.grownBy_alloc w _ none)
 have J4:=zh (show KeepW w w2 by rw[←hw2];exact KeepW.alloc w _)
 have Jc:=zh H4
 have Jo:=zh hW2
 obtain⟨x0,x1,x2,x3,x4⟩:=zcZ H4
 have U0:=zaZ H4
 have Jt:=hW2.lt
 clear ih Hu hk hr hr' ht hp hnm hem Hs hW2 H4 h hsh hkd
 go_enter Tryz.func59, Tryz.ntmps59
 go_wp2_with (go_at_call 100;refine(put2 (s:=[105,110,116,101,114,102,97,99,101]) (t:=[123]) Jo.o ⟨by simp,by simp⟩ ⟨by simp,by simp⟩ (by omega)).mono ?_;rintro e w3 ⟨rfl,hW3,Hl⟩;have H0:=Hl _ _ _ _ Jc.o (by decide) (by decide);clear x0 x1 x2 x3 x4;obtain⟨x0,x1,x2,x3,x4⟩:=zcZ H0;have Jz:=zaZ H0;have Ht:=zh hW3;have J0:=zh (J4.o.trans Hl);have Hb:=zh H0;clear H0 hW3 Hl)
 have H3:=zh (show Wrote W0 b (c+2+10 * Sx.sizeL (t.parts.take 0)) (l++[[105,110,116,101,114,102,97,99,101],[123]]++Sx.methods (t.names.take 0) (t.parts.take 0)) w3 from(Ht.o.mono (by omega)).cast (by simp[Sx.fields,Sx.methods]))
 clear x0 x1 x2 x3 x4
 go_loopg [122] k (fun i v wr=>∃(m:Nat),i=k-m∧v=.int .i64 (m:Int)∧m≤k∧Wrote W0 b (c+2+10 * Sx.sizeL (t.parts.take m)) (l++[[105,110,116,101,114,102,97,99,101],[123]]++Sx.methods (t.names.take m) (t.parts.take m)) wr∧KeepW w3 wr)
 case atStart=>exact⟨0,rfl,rfl,Nat.zero_le _,H3.o,KeepW.refl _⟩
 case round=>
  obtain⟨m,hi,rfl,hm,hW,hkw⟩:=hrel
  have HI:=zh hi
  have Hn:=zh hW
  have m0:(0:Int)≤(m:Int):=by omega
  have H6:=hkw _ _ _ _ Hb.o (by decide) (by decide)
  have Jp:=zh H6
  have Ho:=zh hkw
  have J9:=hW.lt
  have U1:=zaZ H6
  have hSL:=Sx.sizeL_take_le t.parts (m+1)
  have hSL0:=Sx.sizeL_take_le t.parts m
  have hSZ:1+Sx.sizeL t.parts≤Sx.size t:=by have:=Js.o;omega
  clear hi hW hkw H3 Ht Hb
  by_cases hlt:m<k
  ·have Ji:(m:Int)<(k:Int):=by omega
   have H9:m<t.parts.length:=by have:=HK.o;omega
   have Hg:m<t.names.length:=by have:=Hj.o;omega
   have Hw:(m:Int)<(t.names.length:Int):=by omega
   obtain⟨g,off,An1,cn1,Ae1,ce1,Aq,cq,rfl,hty,hc5⟩:=HP.o.spot m H9
   obtain⟨g1,off1,rfl,hsp1⟩:=J8.o.spot m Hg
   have Hd:=Sx.size_take H9
   have Hf:=Sx.methods_take Hj.o H9
   obtain⟨p,hpe⟩:=zE (t.parts[m]'H9)
   obtain⟨s,hse⟩:=zE (t.names[m]'Hg)
   have Hc:p∈t.parts:=by rw[←hpe];exact List.getElem_mem H9
   have H8:s∈t.names:=by rw[←hse];exact List.getElem_mem Hg
   have Hy:s.length≤1000000000:=by have:=Sx.name_len H8;omega
   have Hx:=zh (hN.small _ (Jh.o s H8))
   rw[hpe]at hc5 hty Hd Hf
   rw[hse]at hsp1 Hf
   obtain⟨hg,c0,c1,c2,c3,c4⟩:=hc5 wr Hn.o.below
   have Jq:=Sx.size_pos p
   have Hk:=zh hty
   have H7:=zh Hc
   have Je:=zh hsp1
   have Jg:=zh Hf
   obtain⟨sp,hsp⟩:=zE (Sx.size p)
   obtain⟨sm,hsm⟩:=zE (Sx.sizeL (t.parts.take m))
   rw[hsp,hsm]at Hd
   rw[Hd]at hSL
   rw[hsp]at Jq
   have Hq:=zh hsp
   have J3:=zh Hd
   have Hz:=zh hsm
   have Hi:c+10+10 * (sm+sp)≤1000000000:=by omega
   obtain⟨L4,hL4⟩:=zE (wr.heap.size)
   obtain⟨w4,hw4⟩:=zE (wr.alloc (.cells #[.int .i64 p.kind,.string ⟨p.name.toArray⟩,.slice An1 p.names.length cn1,.slice Ae1 p.embeds.length ce1,.slice Aq p.parts.length cq] 26))
   have H1:w4.heap[L4]? =some (.cells #[.int .i64 p.kind,.string ⟨p.name.toArray⟩,.slice An1 p.names.length cn1,.slice Ae1 p.embeds.length ce1,.slice Aq p.parts.length cq] 26 (0,0)):=by rw[←hw4,←hL4];exact heap_alloc_new wr _
   have Ha:=zh H1
   have Hh:=zh (show Wrote W0 b (c+2+10 * sm) (l++[[105,110,116,101,114,102,97,99,101],[123]]++Sx.methods (t.names.take m) (t.parts.take m)) w4 by rw[←hw4,←Hz.o];exact Hn.o.grown (World.grownBy_alloc wr _ none))
   have Hr:=zh (show KeepW wr w4 by rw[←hw4];exact KeepW.alloc wr _)
   have He:=zh (Hr.o _ _ _ _ Jp.o (by decide) (by decide))
   have Jx:L4<w4.heap.size:=zaZ H1
   have Jm:L<w4.heap.size:=zaZ He.o
   have Jb:b<w4.heap.size:=Hh.o.lt
   clear hty Hf Hc hpe hsp hsm Hd H1 hse H8 hc5 hsp1
   have Hv:=zh (show(∀q∈p.parts,Sx.rightT N (d'-1) q=true)∧p.parts≠[]by
    obtain⟨e',he',hq,hs'⟩:=Sx.right_parts (HR.o p H7.o)
    refine⟨fun q hq'=>by rw[he'];exact hq q hq',?_⟩
    rw[J7.o p H7.o]at hs'
    rintro e
    simp[Sx.shape,e]at hs')
   go_wp2_with fail
   obtain⟨x0,x1,x2,x3,x4⟩:=zcZ He.o
   obtain⟨y0,y1,y2,y3,y4⟩:=zcZ Ha.o
   obtain⟨q0,q1⟩:=Je.o w4 Hh.o.below
   have J6:=zh Hh.o.drew
   go_region_with (go_at_call 100;refine(put1 (s:=s) J6.o ⟨Hx.o,Hy⟩ (by omega)).mono ?_;rintro e w6 ⟨rfl,hW6,Hm⟩)
   all_goals
    have H2:=Hm _ _ _ _ Ha.o (by decide) (by decide)
    clear x0 x1 x2 x3 x4 y0 y1 y2 y3 y4 q0 q1
    obtain⟨y0,y1,y2,y3,y4⟩:=zcZ H2
    have Jy:=zaZ H2
    have Jr:=zh hW6
    have Ja:=zh Hm
    have Jk:=hW6.lt
    clear H2 hW6 Hm
    go_wp2_with (first
     | (go_at_call 109;refine(J2.o p H7.o _ _ _ _ w6 Hv.o.1 Hv.o.2 Hk.o Jr.o (by rw[Hq.o];omega)).mono ?_;rintro e w7 ⟨rfl,hW7,Hp⟩;rw[Hq.o]at hW7;have Jl:=zh hW7;have Jd:=zh Hp;have Jf:=hW7.lt;clear hW7 Hp)
     | (go_at_call 100;refine(put1 (s:=[59]) Jl.o ⟨by simp,by simp⟩ (by omega)).mono ?_;rintro e w8 ⟨rfl,hW8,Jj⟩))
    go_roundg (k-(m+1))
    case measure=>have:=HI.o;omega
    case rel=>
     refine⟨m+1,rfl,by simp,hlt,(hW8.mono ?_).cast ?_,((((Ho.o.trans Hr.o)).trans Ja.o).trans Jd.o).trans Jj⟩
     ·rw[J3.o];omega
     ·rw[Jg.o];simp[List.append_assoc]
  ·have Ji:¬(m:Int)<(k:Int):=by omega
   have H5:Sx.methods (t.names.take m) (t.parts.take m)=Sx.methods t.names t.parts:=by
    rw[List.take_of_length_le (show t.names.length≤m by have:=HK.o;have:=Hj.o;omega),List.take_of_length_le (show t.parts.length≤m by have:=HK.o;omega)]
   have Jn:=zh H5
   have Hi:c+10+10 * Sx.sizeL (t.parts.take m)≤1000000000:=by omega
   clear H5
   go_wp2_with (go_at_call 100;refine(put1 (s:=[125]) Hn.o ⟨by simp,by simp⟩ (by omega)).mono ?_;rintro e w5 ⟨rfl,hW5,J5⟩)
   go_end0
   refine⟨rfl,(hW5.mono ?_).cast ?_,(J0.o.trans Ho.o).trans J5⟩
   ·omega
   ·rw[HT.o,Jn.o];simp[List.append_assoc]
end Go.Proofs.YtdncljdfmdgdaaaGreatDoor
