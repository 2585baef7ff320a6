/-
  The walk of 'cut' with a yield for its callee; All's function.
-/
import Derived.Test.YtdncljdfmdgdaaaGreatDoorM1
import Derived.Test.YtdncljdfmdgdaaaGreatDoorM6
import Derived.Lib.AppendIntMem
set_option linter.unusedSimpArgs false
set_option linter.unusedVariables false
set_option maxRecDepth 100000
set_option maxHeartbeats 4000000
namespace Go.Proofs.YtdncljdfmdgdaaaGreatDoor
open Go.RowKit Go.Shelf
attribute [local go_sem] Oper.semAt_some
def num:Nat→List Lx.Tok→List (Nat×Lx.Tok)
 | _,[]=>[]
 | i,t::l=>(i,t)::num (i+1) l
def cellsT (t:Lx.Tok):List Value:=[.int .i64 t.pos,.int .i64 t.kind,.string ⟨t.s.toArray⟩,.int .i64 t.n]
def OwnT (w:World) (base:Nat) (v:Value) (l:List Lx.Tok):Prop:=w.ownsRow base 133 4 v l.length (l.flatMap cellsT)
theorem ztfZ:(Tryz.prog.info? 133).map (fun i=>(i.zero,i.size,i.bytes))=some (some (.agg #[.int .i64 0,.int .i64 0,.string ⟨#[]⟩,.int .i64 0]),4,40):=by kernel_rfl
theorem znzZ (w:World) (t:TypeId) (cs:List Value) (j:Nat) (u:Value) (h:cs[j]? =some u):(w.alloc (.cells cs.toArray t)).cell? ((⟨w.heap.size,0,none⟩:Addr).add j)=some u:=by
 have h2:=heap_alloc_new w (.cells cs.toArray t)
 have e:(⟨w.heap.size,0,none⟩:Addr).add j=⟨w.heap.size,j,none⟩:=by
  by_cases h0:j=0
  ·subst h0;simp[Addr.add]
  ·simp[Addr.add,h0]
 rw[e,zdZ h2 j]
 simpa using h
theorem zcdZ {w:World} {B:Nat} {e:TypeId} {size:Nat} {v:Value} {n:Nat} {xs:List Value} (h:w.ownsRow B e size v n xs) (g:Nat) (hv:v.ownBlock=some g):B≤g∧∃c,w.heap[g]? =some (.cells c e (0,0)):=by
 rcases h.2 with⟨rfl,_⟩ | ⟨g',cap,cur,rfl,hb,hg,_⟩
 ·simp[Value.ownBlock]at hv
 ·obtain rfl:g'=g:=by simpa[Value.ownBlock]using hv
  exact⟨hb,cur,hg⟩
theorem ztgZ {T t k:Nat} {W W':World} {row:Option Nat} {cs:Array Value} {fr:Nat×Nat} {B:Nat} (hk:W.heap[k]? =some (.cells cs t fr)) (ht:t≠T)
  (hr:∀r,row=some r→B≤r∧∃o:Obj,W.heap[r]? =some o∧(o.isCells=false∨OfT T o)):some k≠row:=by
 intro e
 obtain⟨_,o,ho,h⟩:=hr k e.symm
 rw[hk]at ho
 injection ho with ho
 subst ho
 rcases h with h | ⟨_,_,h⟩
 ·cases h
 ·injection h with h1 h2 h3;exact ht h2
theorem OwnT.turn {W W':World} {row:Option Nat} {v:Value} {l:List Lx.Tok} {base T B:Nat} (h:OwnT W base v l) (ht : 133 ≠T) (hg:W.grownBy W' row)
  (hr:∀r,row=some r→B≤r∧∃o:Obj,W.heap[r]? =some o∧(o.isCells=false∨OfT T o)):OwnT W' base v l:=by
 refine World.ownsRow.kept h hg ?_
 cases hv:v.ownBlock with
 | none=>exact .inl rfl
 | some g=>
  right
  obtain⟨_,c,hc⟩:=zcdZ h g hv
  exact ztgZ (W':=W') hc ht hr
theorem zbfZ {w w':World} (h:Below w.heap.size w w'):w.grownBy w' none:=⟨h.os,h.tape,h.output,h.size,fun k hk _=>h.block k hk⟩
theorem zeZ {w w':World} (h:w.grownBy w' none):Below w.heap.size w w':=⟨h.os,h.tape,h.output,h.size,fun k hk=>h.block k hk (fun e=>nomatch e)⟩
theorem Below.turn {w W W':World} {row:Option Nat} (h:Below w.heap.size w W) (hg:W.grownBy W' row) (hr:∀r,row=some r→w.heap.size≤r):Below w.heap.size w W':=
 ⟨hg.os.trans h.os,hg.tape.trans h.tape,hg.output.trans h.output,Nat.le_trans h.size hg.size,fun k hk=>(hg.block k (Nat.lt_of_lt_of_le hk h.size) (fun e=>by have:=hr k e.symm;omega)).trans (h.block k hk)⟩
end Go.Proofs.YtdncljdfmdgdaaaGreatDoor
namespace Go.Proofs.YtdncljdfmdgdaaaGreatDoor
open Go.RowKit Go.Shelf
namespace Lx
def raw (t:Tok):Option Bytes:=
 if t.kind=1∨t.kind=2∨t.kind=3∨t.kind=6 then some t.s
 else if t.kind=4 then(if t.n<0 then none else some (Lib.decDigits t.n.toNat))
 else if t.kind=5 then some (quote t.s)else none
def held (t:Tok) (s:Bytes):Bool:=
 match cut 0 s with
 | .ok x n=>n==s.length&&x=={ t with pos:=0 }
 | .bad _ _=>false
def written (t:Tok):Bytes×Bool:=
 match raw t with
 | none=>([],false)
 | some []=>([],false)
 | some (c::l)=>if begins c then(c::l,held t (c::l))else([],false)
end Lx
theorem tokEq (w:World) (p k n p' k' n':Int) (s s':ByteArray) :
  (binOp .eql 133 (.agg #[.int .i64 p,.int .i64 k,.string s,.int .i64 n]) (.agg #[.int .i64 p',.int .i64 k',.string s',.int .i64 n'])).run Tryz.prog w=.ok (.bool (p==p'&&(k==k'&&(s.toList==s'.toList&&n==n')))) w:=by
 have h1 : Tryz.prog.underlying 133 =some (.struct (Tryz.prog.fieldsOf 133)):=by kernel_rfl
 have h2 : Tryz.prog.stoodInHeld 133 =false:=by kernel_rfl
 rw[run_eql_struct,run_equalIn_agg _ _ _ _ _ h1 h2]
 simp[go_sem]
 by_cases a:p=p'
 ·by_cases b:k=k'
  ·by_cases c:s.toList=s'.toList
   ·by_cases d:n=n' <;> simp[a,b,c,d]
   ·simp[a,b,c]
  ·simp[a,b]
 ·simp[a]
theorem zoaZ (x t:Lx.Tok):(x==t)=(x.pos==t.pos&&(x.kind==t.kind&&((⟨x.s.toArray⟩:ByteArray).toList==(⟨t.s.toArray⟩:ByteArray).toList&&x.n==t.n))):=by
 rw[ByteArray.toList_mk,ByteArray.toList_mk,Bool.eq_iff_iff]
 simp only[beq_iff_eq,Bool.and_eq_true]
 constructor
 ·rintro rfl;exact⟨rfl,rfl,rfl,rfl⟩
 ·rintro⟨a,b,c,d⟩
  cases x;cases t
  simp only at a b c d
  subst a b c d
  rfl
attribute [local go_sem high] tokEq
theorem zchZ (b:ByteArray):(⟨b.data.toList.toArray⟩:ByteArray)=b:=by cases b;simp
theorem nD_le:∀(k u:Nat),u<10 ^ (k+1)→Lib.nDigits u≤k+1
 | 0,u,h=>by rw[Lib.nDigits_small (by simpa using h)];exact Nat.le_refl _
 | k+1,u,h=>by
  by_cases hu:u<10
  ·rw[Lib.nDigits_small hu];omega
  ·rw[Lib.nDigits_big hu]
   have:=nD_le k (u / 10) (by rw[Nat.pow_succ]at h;omega)
   omega
theorem zmyZ (t:Lx.Tok) (w:World) (hG:GS w) (hN:NG≤w.heap.size) (hs:t.s.length≤1000000000) (hn0:-9223372036854775808≤t.n) (hn1:t.n≤9223372036854775807) :
  Calls Tryz.prog 91 #[.agg #[.int .i64 t.pos,.int .i64 t.kind,.string ⟨t.s.toArray⟩,.int .i64 t.n]] w fun e w'=>
   e=.returned (.tuple #[.string ⟨(Lx.written t).1.toArray⟩,.bool (Lx.written t).2])∧w.grownBy w' none:=by
 go_enter Tryz.func91, Tryz.ntmps91
 have hB:=heap_alloc_new w (.cells #[.int .i64 t.pos,.int .i64 t.kind,.string ⟨t.s.toArray⟩,.int .i64 t.n] 133)
 have Ha:w.grownBy (w.alloc (.cells #[.int .i64 t.pos,.int .i64 t.kind,.string ⟨t.s.toArray⟩,.int .i64 t.n] 133)) none:=World.grownBy_alloc _ _ _
 have hGB:=hG.alloc (.cells #[.int .i64 t.pos,.int .i64 t.kind,.string ⟨t.s.toArray⟩,.int .i64 t.n] 133)
 obtain⟨b0,b1,b2,b3⟩:=zhZ hB
 have HB:=zh hB
 have H5:=zh Ha
 clear hB Ha
 go_upto_block 0 with fail
 obtain⟨w2,hw2⟩:=zE (w.alloc (.cells #[.int .i64 t.pos,.int .i64 t.kind,.string ⟨t.s.toArray⟩,.int .i64 t.n] 133))
 rw[hw2]at b0 b1 b2 b3 HB H5 hGB ⊢
 have He:w.heap.size<w2.heap.size:=zaZ HB.o
 clear hw2
 go_cut [4] (fun v wx=>∃sb:ByteArray,v=.string sb∧Lx.raw t=some sb.data.toList∧w2.grownBy wx none∧sb.size≤3000000000)
 case first=>
  have Hf:(⟨t.s.toArray⟩:ByteArray).data.toList=t.s:=rfl
  by_cases k1:t.kind=1∨t.kind=2∨t.kind=3∨t.kind=6
  ·have hr:Lx.raw t=some t.s:=by unfold Lx.raw;rw[if_pos k1]
   have HR:=zh hr
   clear hr
   rcases k1 with k1 | k1 | k1 | k1
   ·have e1:(t.kind==1)=true:=by simp;omega
    clear k1
    go_wp2
    go_meet
    exact⟨⟨t.s.toArray⟩,rfl,HR.o,World.grownBy.refl _ _,by show t.s.length≤_;omega⟩
   ·have e1:(t.kind==1)=false:=by simp;omega
    have e2:(t.kind==2)=true:=by simp;omega
    clear k1
    go_wp2
    go_meet
    exact⟨⟨t.s.toArray⟩,rfl,HR.o,World.grownBy.refl _ _,by show t.s.length≤_;omega⟩
   ·have e1:(t.kind==1)=false:=by simp;omega
    have e2:(t.kind==2)=false:=by simp;omega
    have e3:(t.kind==3)=true:=by simp;omega
    clear k1
    go_wp2
    go_meet
    exact⟨⟨t.s.toArray⟩,rfl,HR.o,World.grownBy.refl _ _,by show t.s.length≤_;omega⟩
   ·have e1:(t.kind==1)=false:=by simp;omega
    have e2:(t.kind==2)=false:=by simp;omega
    have e3:(t.kind==3)=false:=by simp;omega
    have e6:(t.kind==6)=true:=by simp;omega
    clear k1
    go_wp2
    go_meet
    exact⟨⟨t.s.toArray⟩,rfl,HR.o,World.grownBy.refl _ _,by show t.s.length≤_;omega⟩
  ·have e1:(t.kind==1)=false:=by simp;omega
   have e2:(t.kind==2)=false:=by simp;omega
   have e3:(t.kind==3)=false:=by simp;omega
   have e6:(t.kind==6)=false:=by simp;omega
   by_cases k4:t.kind=4
   ·by_cases hneg:t.n<0
    ·have hr:Lx.raw t=none:=by unfold Lx.raw;rw[if_neg k1,if_pos k4,if_pos hneg]
     have HR:=zh (show Lx.written t=([],false)by unfold Lx.written;rw[hr])
     clear hr k1
     have e4:(t.kind==4)=true:=by simp;omega
     clear k4
     go_wp2
     refine bodyPost_ret (results_tmp2 rfl _ _ _) rfl ?_
     rw[HR.o]
     exact⟨rfl,H5.o⟩
    ·have hr:Lx.raw t=some (Lib.decDigits t.n.toNat):=by unfold Lx.raw;rw[if_neg k1,if_pos k4,if_neg hneg]
     have Hb:Lib.itoa t.n=Lib.decDigits t.n.toNat:=by unfold Lib.itoa;rw[if_neg hneg]
     have HR:=zh hr
     have HI:=zh Hb
     clear hr Hb k1
     have e4:(t.kind==4)=true:=by simp;omega
     clear k4
     go_wp2_with (go_at_call 113;refine(Tryz.strconv_Itoa _ hn0 hn1 _ hGB.pow).mono ?_;rintro e w3 ⟨rfl,k,os,rfl⟩)
     go_meet
     refine⟨⟨(Lib.decDigits t.n.toNat).toArray⟩,by rw[HI.o],HR.o,zbfZ (Lib.below_grow _ _ (Nat.le_refl _) _ _),?_⟩
     show(Lib.decDigits t.n.toNat).length≤3000000000
     rw[Lib.decDigits_length]
     have:=nD_le 19 t.n.toNat (by omega)
     omega
   ·have e4:(t.kind==4)=false:=by simp;omega
    by_cases k5:t.kind=5
    ·have hr:Lx.raw t=some (Lx.quote t.s):=by unfold Lx.raw;rw[if_neg k1,if_neg k4,if_pos k5]
     have HR:=zh hr
     clear hr k1
     have e5:(t.kind==5)=true:=by simp;omega
     clear k5
     go_wp2_with (go_at_call 114;refine(zjzZ ⟨t.s.toArray⟩ _ (by show t.s.length≤_;omega)).mono ?_;rintro e w3 ⟨rfl,Hh⟩)
     go_meet
     refine⟨⟨(Lx.quote t.s).toArray⟩,rfl,HR.o,zbfZ Hh,?_⟩
     have:=Lx.quoteIn_len t.s
     show(Lx.quote t.s).length≤_
     simp[Lx.quote]
     omega
    ·have e5:(t.kind==5)=false:=by simp;omega
     have hr:Lx.raw t=none:=by unfold Lx.raw;rw[if_neg k1,if_neg k4,if_neg k5]
     have HR:=zh (show Lx.written t=([],false)by unfold Lx.written;rw[hr])
     clear hr k1 k4 k5
     go_wp2
     refine bodyPost_ret (results_tmp2 rfl _ _ _) rfl ?_
     rw[HR.o]
     exact⟨rfl,H5.o⟩
 case rest=>
  obtain⟨sb,rfl,hr,hg2,Hf⟩:=hcut
  have HR:=zh hr
  clear hr
  have Hc:w.grownBy wc none:=H5.o.trans hg2
  have hGc:GS wc:=hG.below (zeZ Hc)
  have Hg:=hg2.size
  have hBc:=(hg2.block _ He (fun e=>nomatch e)).trans HB.o
  have H1:=Hc.trans (World.grownBy_alloc wc (.cells #[.string sb,.int .i64 0] 171) none)
  by_cases hz:sb.size=0
  ·have H3:sb.data.toList=[]:=List.length_eq_zero_iff.1 (by rw[ziZ];exact hz)
   have hE:sb.toList.isEmpty=true:=by rw[ByteArray.toList_eq,H3];rfl
   have HW:=zh (show Lx.written t=([],false)by unfold Lx.written;rw[HR.o,H3])
   clear hz H3
   go_wp2
   refine bodyPost_ret (results_tmp2 rfl _ _ _) rfl ?_
   rw[HW.o]
   exact⟨rfl,H1⟩
  ·have H6:0<sb.size:=by omega
   have hd:=zlZ sb 0 H6
   rw[List.drop_zero]at hd
   have hE:sb.toList.isEmpty=false:=by rw[ByteArray.toList_eq,hd];rfl
   have HD:=zh hd
   clear hz hd
   have hC3:Cu (wc.alloc (.cells #[.string sb,.int .i64 0] 171)) wc.heap.size sb 0:=heap_alloc_new wc _
   have hG3:=hGc.alloc (.cells #[.string sb,.int .i64 0] 171)
   have hB3:=heap_alloc hBc (.cells #[.string sb,.int .i64 0] 171)
   have hN3:NG≤wc.heap.size:=by omega
   have H4:=zaZ hB3
   cases hb:Lx.begins (sb[0]'H6)with
   | false=>
    have HW:=zh (show Lx.written t=([],false)by unfold Lx.written;rw[HR.o,HD.o];simp[hb])
    go_wp2_with (go_at_call 126;refine(zfbZ _ _).mono ?_;rintro e w' ⟨rfl,rfl⟩)
    refine bodyPost_ret (results_tmp2 rfl _ _ _) rfl ?_
    rw[HW.o]
    exact⟨rfl,H1⟩
   | true=>
    have Hd:=zh hb
    have HW:=zh (show Lx.written t=(sb.data.toList,Lx.held t sb.data.toList)by unfold Lx.written;rw[HR.o,HD.o];simp[hb])
    have H2:sb.data.toList.length=sb.size:=ziZ sb
    cases hc:Lx.cut 0 (sb.data.toList.drop 0)with
    | bad y x=>
     have HX:=zh hc
     have HH:=zh (show Lx.held t sb.data.toList=false by unfold Lx.held;rw[List.drop_zero]at hc;rw[hc])
     clear hc H2
     go_wp2_with (first | (go_at_call 126;refine(zfbZ _ _).mono ?_;rintro e w' ⟨rfl,rfl⟩) | (go_at_call 127;refine(zjxZ sb wc.heap.size 0 _ hC3 H6 (by omega) hG3 hN3 Hd.o).mono ?_;intro e w6 H0;obtain⟨g,j,rfl,hg6,hR6,hgl,hC6⟩:=ResIs.bad' HX.o H0;clear H0;have hB6:=(hg6.block _ H4 (by simp;omega)).trans hB3;obtain⟨b0,b1,b2,b3⟩:=zhZ hB6;obtain⟨f0,f1,f2,f3⟩:=zrZ hB6;have c1:=hC6.c1;have H8:=zaZ hB6;have H7:=hC6.lt))
     go_quiet (fail)
     go_wp2
     refine bodyPost_ret (results_tmp2 rfl _ _ _) rfl ?_
     rw[HW.o,HH.o]
     refine⟨?_,(((zcoZ (zcoZ H1 hg6 (by omega)) (zjZ _ _ _ _) (Nat.le_refl _)).trans (World.grownBy_alloc _ _ _)).trans (zkZ _ _ _))⟩
     simp only[zchZ]
     rfl
    | ok x n=>
     have HX:=zh hc
     have HH:=zh (show Lx.held t sb.data.toList=(n==sb.size&&x=={ t with pos:=0 })by unfold Lx.held;rw[List.drop_zero]at hc;rw[hc,H2])
     clear hc H2
     go_wp2_with (first | (go_at_call 126;refine(zfbZ _ _).mono ?_;rintro e w' ⟨rfl,rfl⟩) | (go_at_call 127;refine(zjxZ sb wc.heap.size 0 _ hC3 H6 (by omega) hG3 hN3 Hd.o).mono ?_;intro e w6 H0;obtain⟨rfl,hg6,hC6⟩:=ResIs.ok' HX.o H0;rw[Nat.zero_add]at hC6;clear H0;have hB6:=(hg6.block _ H4 (by simp;omega)).trans hB3;obtain⟨b0,b1,b2,b3⟩:=zhZ hB6;obtain⟨f0,f1,f2,f3⟩:=zrZ hB6;have c1:=hC6.c1;have H8:=zaZ hB6;have H7:=hC6.lt))
     by_cases hn:n=sb.size
     ·have H9:(n==sb.size)=true:=by simp[hn]
      have Hi:((n:Int)==(sb.size:Int))=true:=by simp;omega
      clear hn
      go_quiet (fail)
      go_wp2
      refine bodyPost_ret (results_tmp2 rfl _ _ _) rfl ?_
      rw[HW.o,HH.o,H9,zoaZ]
      refine⟨?_,(((zcoZ (zcoZ H1 hg6 (by omega)) (zjZ _ _ _ _) (Nat.le_refl _)).trans (World.grownBy_alloc _ _ _)).trans (zkZ _ _ _))⟩
      simp only[zchZ,ByteArray.toList_mk,Bool.true_and,Bool.false_and]
      rfl
     ·have H9:(n==sb.size)=false:=by simp[hn]
      have Hi:((n:Int)==(sb.size:Int))=false:=by simp;omega
      clear hn
      go_quiet (fail)
      go_wp2
      refine bodyPost_ret (results_tmp2 rfl _ _ _) rfl ?_
      rw[HW.o,HH.o,H9,zoaZ]
      refine⟨?_,(((zcoZ (zcoZ H1 hg6 (by omega)) (zjZ _ _ _ _) (Nat.le_refl _)).trans (World.grownBy_alloc _ _ _)).trans (zkZ _ _ _))⟩
      simp only[zchZ,ByteArray.toList_mk,Bool.true_and,Bool.false_and]
      rfl
end Go.Proofs.YtdncljdfmdgdaaaGreatDoor
