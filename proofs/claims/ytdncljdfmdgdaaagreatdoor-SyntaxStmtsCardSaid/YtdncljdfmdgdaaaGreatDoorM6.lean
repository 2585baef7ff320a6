/-
  The walk of 'cut' with a yield for its callee; All's function.
-/
import Derived.Test.YtdncljdfmdgdaaaGreatDoorM5
set_option linter.unusedSimpArgs false
set_option linter.unusedVariables false
set_option maxRecDepth 100000
set_option maxHeartbeats 4000000
namespace Go.Proofs.YtdncljdfmdgdaaaGreatDoor
open Go.RowKit Go.Shelf
attribute [local go_sem] Oper.semAt_some
def num:Nat->List Lx.Tok->List (Nat×Lx.Tok)
 | _,[]=>[]
 | i,t::l=>(i,t)::num (i+1) l
def cellsT (t:Lx.Tok):List Value:=[.int .i64 t.pos,.int .i64 t.kind,.string ⟨t.s.toArray⟩,.int .i64 t.n]
def OwnT (w:World) (base:Nat) (v:Value) (l:List Lx.Tok):Prop:=w.ownsRow base 133 4 v l.length (l.flatMap cellsT)
theorem zuqZ:(Tryz.prog.info? 133).map (fun i=>(i.zero,i.size,i.bytes))=some (some (.agg #[.int .i64 0,.int .i64 0,.string ⟨#[]⟩,.int .i64 0]),4,40):=by kernel_rfl
theorem zpgZ (w:World) (t:TypeId) (cs:List Value) (j:Nat) (u:Value) (h:cs[j]? =some u):(w.alloc (.cells cs.toArray t)).cell? ((⟨w.heap.size,0,none⟩:Addr).add j)=some u:=by
 have h2:=ydZ w (.cells cs.toArray t);have e:(⟨w.heap.size,0,none⟩:Addr).add j=⟨w.heap.size,j,none⟩:=by
  by_cases h0:j=0
  ·subst h0;simp[Addr.add]
  ·simp[Addr.add,h0]
 rw[e,zdZ h2 j];simpa using h
theorem zckZ {w:World} {B:Nat} {e:TypeId} {size:Nat} {v:Value} {n:Nat} {xs:List Value} (h:w.ownsRow B e size v n xs) (g:Nat) (hv:v.ownBlock=some g):B<=g/\∃c,w.heap[g]? =some (.cells c e (0,0)):=by
 rcases h.2 with⟨rfl,_⟩ | ⟨g',cap,cur,rfl,hb,hg,_⟩
 ·simp[Value.ownBlock]at hv
 ·obtain rfl:g'=g:=(by simpa[Value.ownBlock]using hv);exact⟨hb,cur,hg⟩
theorem zurZ {T t k:Nat} {W W':World} {row:Option Nat} {cs:Array Value} {fr:Nat×Nat} {B:Nat} (hk:W.heap[k]? =some (.cells cs t fr)) (ht:t≠T)
  (hr:∀r,row=some r->B<=r/\∃o:Obj,W.heap[r]? =some o/\(o.isCells=false\/OfT T o)):some k≠row:=by
 intro e;obtain⟨_,o,ho,h⟩:=hr k e.symm;rw[hk]at ho;injection ho with ho;subst ho;rcases h with h | ⟨_,_,h⟩
 ·cases h
 ·injection h with h1 h2 h3;exact ht h2
theorem OwnT.turn {W W':World} {row:Option Nat} {v:Value} {l:List Lx.Tok} {base T B:Nat} (h:OwnT W base v l) (ht : 133 ≠T) (hg:W.grownBy W' row)
  (hr:∀r,row=some r->B<=r/\∃o:Obj,W.heap[r]? =some o/\(o.isCells=false\/OfT T o)):OwnT W' base v l:=by
 refine World.ownsRow.kept h hg ?_
 cases hv:v.ownBlock with
 | none=>exact .inl rfl
 | some g=>right;obtain⟨_,c,hc⟩:=zckZ h g hv;exact zurZ (W':=W') hc ht hr
theorem zbhZ {w w':World} (h:Below w.heap.size w w'):w.grownBy w' none:=⟨h.os,h.tape,h.output,h.size,fun k hk _=>h.block k hk⟩
theorem zeZ {w w':World} (h:w.grownBy w' none):Below w.heap.size w w':=⟨h.os,h.tape,h.output,h.size,fun k hk=>h.block k hk (fun e=>nomatch e)⟩
theorem Below.turn {w W W':World} {row:Option Nat} (h:Below w.heap.size w W) (hg:W.grownBy W' row) (hr:∀r,row=some r->w.heap.size<=r):Below w.heap.size w W':=
 ⟨hg.os.trans h.os,hg.tape.trans h.tape,hg.output.trans h.output,ymZ h.size hg.size,fun k hk=>(hg.block k (yJZ hk h.size) (fun e=>by have:=hr k e.symm;omega)).trans (h.block k hk)⟩
end Go.Proofs.YtdncljdfmdgdaaaGreatDoor
namespace Go.Proofs.YtdncljdfmdgdaaaGreatDoor
open Go.RowKit Go.Shelf
namespace Lx
def raw (t:Tok):Option Bytes:=
 if t.kind=1\/t.kind=2\/t.kind=3\/t.kind=6 then some t.s
 else if t.kind=4 then(if t.n<0 then none else some (Lib.decDigits t.n.toNat))
 else if t.kind=5 then some (quote t.s)else none
def held (t:Tok) (s:Bytes):Bool:=
 match cut 0 s with
 | .ok x n=>n==s.length&&x=={ t with pos:=0 }
 | .bad _ _=>false
def written (t:Tok):Bytes×Bool:=
 match raw t with
 | none=>([],false)
 | some []=>([],false)
 | some (c::l)=>if begins c then(c::l,held t (c::l))else([],false)
end Lx
theorem tokEq (w:World) (p k n p' k' n':Int) (s s':ByteArray) :
  (binOp .eql 133 (.agg #[.int .i64 p,.int .i64 k,.string s,.int .i64 n]) (.agg #[.int .i64 p',.int .i64 k',.string s',.int .i64 n'])).run Tryz.prog w=.ok (.bool (p==p'&&(k==k'&&(s.toList==s'.toList&&n==n')))) w:=by
 have h1 : Tryz.prog.underlying 133 =some (.struct (Tryz.prog.fieldsOf 133)):=by kernel_rfl
 have h2 : Tryz.prog.stoodInHeld 133 =false:=by kernel_rfl
 rw[run_eql_struct,run_equalIn_agg _ _ _ _ _ h1 h2];simp[go_sem];by_cases a:p=p'
 ·by_cases b:k=k'
  ·by_cases c:s.toList=s'.toList
   ·by_cases d:n=n' <;> simp[a,b,c,d]
   ·simp[a,b,c]
  ·simp[a,b]
 ·simp[a]
theorem zphZ (x t:Lx.Tok):(x==t)=(x.pos==t.pos&&(x.kind==t.kind&&((⟨x.s.toArray⟩:ByteArray).toList==(⟨t.s.toArray⟩:ByteArray).toList&&x.n==t.n))):=by
 rw[ByteArray.toList_mk,ByteArray.toList_mk,yEZ];simp only[ytZ,ygZ];constructor
 ·rintro rfl;exact⟨rfl,rfl,rfl,rfl⟩
 ·rintro⟨a,b,c,d⟩;cases x;cases t;simp only at a b c d;subst a b c d;rfl
attribute [local go_sem high] tokEq
theorem zcoZ (b:ByteArray):(⟨b.data.toList.toArray⟩:ByteArray)=b:=by cases b;simp
theorem nD_le:∀(k u:Nat),u<10 ^ (k+1)->Lib.nDigits u<=k+1
 | 0,u,h=>by rw[Lib.nDigits_small (by simpa using h)];exact ybZ _
 | k+1,u,h=>by
  by_cases hu:u<10
  ·rw[Lib.nDigits_small hu];omega
  ·rw[Lib.nDigits_big hu];have:=nD_le k (u / 10) (by rw[Nat.pow_succ]at h;omega);omega
theorem zobZ (t:Lx.Tok) (w:World) (hG:GS w) (hN:NG<=w.heap.size) (hs:t.s.length<=1000000000) (hn0:-9223372036854775808<=t.n) (hn1:t.n<=9223372036854775807) :
  Calls Tryz.prog 91 #[.agg #[.int .i64 t.pos,.int .i64 t.kind,.string ⟨t.s.toArray⟩,.int .i64 t.n]] w fun e w'=>
   e=.returned (.tuple #[.string ⟨(Lx.written t).1.toArray⟩,.bool (Lx.written t).2])/\w.grownBy w' none:=by
 go_enter Tryz.func91, Tryz.ntmps91
 have hB:=ydZ w (.cells #[.int .i64 t.pos,.int .i64 t.kind,.string ⟨t.s.toArray⟩,.int .i64 t.n] 133);have Hc:w.grownBy (w.alloc (.cells #[.int .i64 t.pos,.int .i64 t.kind,.string ⟨t.s.toArray⟩,.int .i64 t.n] 133)) none:=yeZ _ _ _;have hGB:=hG.alloc (.cells #[.int .i64 t.pos,.int .i64 t.kind,.string ⟨t.s.toArray⟩,.int .i64 t.n] 133);obtain⟨b0,b1,b2,b3⟩:=zgZ hB;have HB:=zh hB;have H5:=zh Hc;clear hB Hc
 go_upto_block 0 with fail
 obtain⟨w2,hw2⟩:=zE (w.alloc (.cells #[.int .i64 t.pos,.int .i64 t.kind,.string ⟨t.s.toArray⟩,.int .i64 t.n] 133));rw[hw2]at b0 b1 b2 b3 HB H5 hGB ⊢;have Hi:w.heap.size<w2.heap.size:=zaZ HB.o;clear hw2
 go_cut [4] (fun v wx=>∃sb:ByteArray,v=.string sb/\Lx.raw t=some sb.data.toList/\w2.grownBy wx none/\sb.size<=3000000000)
 case first=>
  have Hh:(⟨t.s.toArray⟩:ByteArray).data.toList=t.s:=rfl;by_cases k1:t.kind=1\/t.kind=2\/t.kind=3\/t.kind=6
  ·have hr:Lx.raw t=some t.s:=(by unfold Lx.raw;rw[if_pos k1]);have HR:=zh hr;clear hr;rcases k1 with k1 | k1 | k1 | k1
   ·have e1:(t.kind==1)=true:=(by simp;omega);clear k1;go_wp2
    go_meet
    exact⟨⟨t.s.toArray⟩,rfl,HR.o,World.grownBy.refl _ _,by show t.s.length<=_;omega⟩
   ·have e1:(t.kind==1)=false:=(by simp;omega);have e2:(t.kind==2)=true:=(by simp;omega);clear k1;go_wp2
    go_meet
    exact⟨⟨t.s.toArray⟩,rfl,HR.o,World.grownBy.refl _ _,by show t.s.length<=_;omega⟩
   ·have e1:(t.kind==1)=false:=(by simp;omega);have e2:(t.kind==2)=false:=(by simp;omega);have e3:(t.kind==3)=true:=(by simp;omega);clear k1;go_wp2
    go_meet
    exact⟨⟨t.s.toArray⟩,rfl,HR.o,World.grownBy.refl _ _,by show t.s.length<=_;omega⟩
   ·have e1:(t.kind==1)=false:=(by simp;omega);have e2:(t.kind==2)=false:=(by simp;omega);have e3:(t.kind==3)=false:=(by simp;omega);have e6:(t.kind==6)=true:=(by simp;omega);clear k1;go_wp2
    go_meet
    exact⟨⟨t.s.toArray⟩,rfl,HR.o,World.grownBy.refl _ _,by show t.s.length<=_;omega⟩
  ·have e1:(t.kind==1)=false:=(by simp;omega);have e2:(t.kind==2)=false:=(by simp;omega);have e3:(t.kind==3)=false:=(by simp;omega);have e6:(t.kind==6)=false:=(by simp;omega);by_cases k4:t.kind=4
   ·by_cases hneg:t.n<0
    ·have hr:Lx.raw t=none:=(by unfold Lx.raw;rw[if_neg k1,if_pos k4,if_pos hneg]);have HR:=zh (show Lx.written t=([],false)by unfold Lx.written;rw[hr]);clear hr k1;have e4:(t.kind==4)=true:=(by simp;omega);clear k4;go_wp2;refine ylZ (yDZ rfl _ _ _) rfl ?_;rw[HR.o];exact⟨rfl,H5.o⟩
    ·have hr:Lx.raw t=some (Lib.decDigits t.n.toNat):=(by unfold Lx.raw;rw[if_neg k1,if_pos k4,if_neg hneg]);have Hb:Lib.itoa t.n=Lib.decDigits t.n.toNat:=(by unfold Lib.itoa;rw[if_neg hneg]);have HR:=zh hr;have HI:=zh Hb;clear hr Hb k1;have e4:(t.kind==4)=true:=(by simp;omega);clear k4;go_wp2_with (go_at_call 113;refine(Tryz.strconv_Itoa _ hn0 hn1 _ hGB.pow).mono ?_;rintro e w3 ⟨rfl,k,os,rfl⟩)
     go_meet
     refine⟨⟨(Lib.decDigits t.n.toNat).toArray⟩,by rw[HI.o],HR.o,zbhZ (Lib.below_grow _ _ (ybZ _) _ _),?_⟩;show(Lib.decDigits t.n.toNat).length<=3000000000;rw[Lib.decDigits_length];have:=nD_le 19 t.n.toNat (by omega);omega
   ·have e4:(t.kind==4)=false:=(by simp;omega);by_cases k5:t.kind=5
    ·have hr:Lx.raw t=some (Lx.quote t.s):=(by unfold Lx.raw;rw[if_neg k1,if_neg k4,if_pos k5]);have HR:=zh hr;clear hr k1;have e5:(t.kind==5)=true:=(by simp;omega);clear k5;go_wp2_with (go_at_call 114;refine(zleZ ⟨t.s.toArray⟩ _ (by show t.s.length<=_;omega)).mono ?_;rintro e w3 ⟨rfl,He⟩)
     go_meet
     refine⟨⟨(Lx.quote t.s).toArray⟩,rfl,HR.o,zbhZ He,?_⟩;have:=Lx.quoteIn_len t.s;show(Lx.quote t.s).length<=_;simp[Lx.quote];omega
    ·have e5:(t.kind==5)=false:=(by simp;omega);have hr:Lx.raw t=none:=(by unfold Lx.raw;rw[if_neg k1,if_neg k4,if_neg k5]);have HR:=zh (show Lx.written t=([],false)by unfold Lx.written;rw[hr]);clear hr k1 k4 k5;go_wp2;refine ylZ (yDZ rfl _ _ _) rfl ?_;rw[HR.o];exact⟨rfl,H5.o⟩
 case rest=>
  obtain⟨sb,rfl,hr,hg2,Hh⟩:=hcut;have HR:=zh hr;clear hr;have Hd:w.grownBy wc none:=H5.o.trans hg2;have hGc:GS wc:=hG.below (zeZ Hd);have Hf:=hg2.size;have hBc:=(hg2.block _ Hi (fun e=>nomatch e)).trans HB.o;have H1:=Hd.trans (yeZ wc (.cells #[.string sb,.int .i64 0] 171) none);by_cases hz:sb.size=0
  ·have H3:sb.data.toList=[]:=yabZ.1 (by rw[zhZ];exact hz);have hE:sb.toList.isEmpty=true:=(by rw[yebZ,H3];rfl);have HW:=zh (show Lx.written t=([],false)by unfold Lx.written;rw[HR.o,H3]);clear hz H3;go_wp2;refine ylZ (yDZ rfl _ _ _) rfl ?_;rw[HW.o];exact⟨rfl,H1⟩
  ·have H6:0<sb.size:=(by omega);have hd:=zkZ sb 0 H6;rw[List.drop_zero]at hd;have hE:sb.toList.isEmpty=false:=(by rw[yebZ,hd];rfl);have HD:=zh hd;clear hz hd;have hC3:Cu (wc.alloc (.cells #[.string sb,.int .i64 0] 171)) wc.heap.size sb 0:=ydZ wc _;have hG3:=hGc.alloc (.cells #[.string sb,.int .i64 0] 171);have hB3:=heap_alloc hBc (.cells #[.string sb,.int .i64 0] 171);have hN3:NG<=wc.heap.size:=(by omega);have H4:=zaZ hB3
   cases hb:Lx.begins (sb[0]'H6)with
   | false=>have HW:=zh (show Lx.written t=([],false)by unfold Lx.written;rw[HR.o,HD.o];simp[hb]);go_wp2_with (go_at_call 126;refine(zfuZ _ _).mono ?_;rintro e w' ⟨rfl,rfl⟩);refine ylZ (yDZ rfl _ _ _) rfl ?_;rw[HW.o];exact⟨rfl,H1⟩
   | true=>
    have Ha:=zh hb;have HW:=zh (show Lx.written t=(sb.data.toList,Lx.held t sb.data.toList)by unfold Lx.written;rw[HR.o,HD.o];simp[hb]);have H2:sb.data.toList.length=sb.size:=zhZ sb
    cases hc:Lx.cut 0 (sb.data.toList.drop 0)with
    | bad y x=>
     have HX:=zh hc;have HH:=zh (show Lx.held t sb.data.toList=false by unfold Lx.held;rw[List.drop_zero]at hc;rw[hc]);clear hc H2;go_wp2_with (first | (go_at_call 126;refine(zfuZ _ _).mono ?_;rintro e w' ⟨rfl,rfl⟩) | (go_at_call 127;refine(zlcZ sb wc.heap.size 0 _ hC3 H6 (by omega) hG3 hN3 Ha.o).mono ?_;intro e w6 H0;obtain⟨g,j,rfl,hg6,hR6,hgl,hC6⟩:=ResIs.bad' HX.o H0;clear H0;have hB6:=(hg6.block _ H4 (by simp;omega)).trans hB3;obtain⟨b0,b1,b2,b3⟩:=zgZ hB6;obtain⟨f0,f1,f2,f3⟩:=zqZ hB6;have c1:=hC6.c1;have H9:=zaZ hB6;have H8:=hC6.lt));go_quiet (fail);go_wp2;refine ylZ (yDZ rfl _ _ _) rfl ?_;rw[HW.o,HH.o];refine⟨?_,(((zcuZ (zcuZ H1 hg6 (by omega)) (ziZ _ _ _ _) (ybZ _)).trans (yeZ _ _ _)).trans (zjZ _ _ _))⟩;simp only[zcoZ];rfl
    | ok x n=>
     have HX:=zh hc;have HH:=zh (show Lx.held t sb.data.toList=(n==sb.size&&x=={ t with pos:=0 })by unfold Lx.held;rw[List.drop_zero]at hc;rw[hc,H2]);clear hc H2;go_wp2_with (first | (go_at_call 126;refine(zfuZ _ _).mono ?_;rintro e w' ⟨rfl,rfl⟩) | (go_at_call 127;refine(zlcZ sb wc.heap.size 0 _ hC3 H6 (by omega) hG3 hN3 Ha.o).mono ?_;intro e w6 H0;obtain⟨rfl,hg6,hC6⟩:=ResIs.ok' HX.o H0;rw[yGZ]at hC6;clear H0;have hB6:=(hg6.block _ H4 (by simp;omega)).trans hB3;obtain⟨b0,b1,b2,b3⟩:=zgZ hB6;obtain⟨f0,f1,f2,f3⟩:=zqZ hB6;have c1:=hC6.c1;have H9:=zaZ hB6;have H8:=hC6.lt));by_cases hn:n=sb.size
     ·have H7:(n==sb.size)=true:=(by simp[hn]);have Hg:((n:Int)==(sb.size:Int))=true:=(by simp;omega);clear hn;go_quiet (fail);go_wp2;refine ylZ (yDZ rfl _ _ _) rfl ?_;rw[HW.o,HH.o,H7,zphZ];refine⟨?_,(((zcuZ (zcuZ H1 hg6 (by omega)) (ziZ _ _ _ _) (ybZ _)).trans (yeZ _ _ _)).trans (zjZ _ _ _))⟩;simp only[zcoZ,ByteArray.toList_mk,Bool.true_and,Bool.false_and];rfl
     ·have H7:(n==sb.size)=false:=(by simp[hn]);have Hg:((n:Int)==(sb.size:Int))=false:=(by simp;omega);clear hn;go_quiet (fail);go_wp2;refine ylZ (yDZ rfl _ _ _) rfl ?_;rw[HW.o,HH.o,H7,zphZ];refine⟨?_,(((zcuZ (zcuZ H1 hg6 (by omega)) (ziZ _ _ _ _) (ybZ _)).trans (yeZ _ _ _)).trans (zjZ _ _ _))⟩;simp only[zcoZ,ByteArray.toList_mk,Bool.true_and,Bool.false_and];rfl
end Go.Proofs.YtdncljdfmdgdaaaGreatDoor
namespace Go.Proofs.YtdncljdfmdgdaaaGreatDoor
open Go.RowKit Go.Shelf
namespace Lx
def joinStep (i:Nat) (b s:Bytes):Bytes:=if 65536<b.length then b else(if 0<i then b++[32]else b)++s
def joinFrom:Nat->Bytes->List Tok->Option Bytes
 | _,b,[]=>some b
 | i,b,t::l=>if(written t).2 then joinFrom (i+1) (joinStep i b (written t).1) l else none
def join (l:List Tok):Bytes×Nat:=
 match joinFrom 0 [] l with
 | none=>([],1)
 | some b=>if 65536<b.length then([],2)else if 4096<l.length then([],3)else(b,0)
theorem written_len (t:Tok) (hs:t.s.length<=1000000000) (hn1:t.n<=9223372036854775807):(written t).1.length<=3000000000:=by
 have h:∀s,raw t=some s->s.length<=3000000000:=by
  intro s h;unfold raw at h;split at h
  ·injection h with h;subst h;omega
  ·split at h
   ·split at h
    ·cases h
    ·injection h with h;subst h;rw[Lib.decDigits_length];have:=nD_le 19 t.n.toNat (by omega);omega
   ·split at h
    ·injection h with h;subst h;have:=quoteIn_len t.s;simp[quote];omega
    ·cases h
 unfold written;split
 ·simp
 ·simp
 ·rename_i c l he;split
  ·exact h _ he
  ·simp
end Lx
def ToksIn (w:World) (v:Value) (ts:List Lx.Tok):Prop:=
 (ts=[]/\∃a c,v=.slice a 0 c)\/∃g c cur fr,v=.slice (some ⟨g,0,none⟩) ts.length c/\w.heap[g]? =some (.cells cur 133 fr)/\cur.toList.take (ts.length * 4)=ts.flatMap cellsT
theorem zusZ (ts:List Lx.Tok):∀(m:Nat) (h:m<ts.length) (q:Nat),q<4->(ts.flatMap cellsT)[m * 4+q]? =(cellsT (ts[m]'h))[q]? :=by
 induction ts with
 | nil=>intro m h;simp at h
 | cons t ts ih=>
  intro m h q hq;rw[List.flatMap_cons]
  cases m with
  | zero=>rw[List.getElem?_append_left (by simp[cellsT];omega)];simp
  | succ m=>rw[List.getElem?_append_right (by simp[cellsT];omega)];have e:(m+1) * 4+q-(cellsT t).length=m * 4+q:=(by simp[cellsT];omega);rw[e,ih m (by simpa using h) q hq];rfl
theorem zgvZ {w:World} {ts:List Lx.Tok} {g m:Nat} {cur:Array Value} {fr:Nat×Nat} (hg:w.heap[g]? =some (.cells cur 133 fr)) (hc:cur.toList.take (ts.length * 4)=ts.flatMap cellsT) (h:m<ts.length) :
  w.cell? ⟨g,m * 4,none⟩=some (.int .i64 (ts[m]'h).pos)/\w.cell? ⟨g,m * 4+1,none⟩=some (.int .i64 (ts[m]'h).kind)/\w.cell? ⟨g,m * 4+2,none⟩=some (.string ⟨(ts[m]'h).s.toArray⟩)/\w.cell? ⟨g,m * 4+3,none⟩=some (.int .i64 (ts[m]'h).n):=by
 have e:∀q,q<4->w.cell? ⟨g,m * 4+q,none⟩=(cellsT (ts[m]'h))[q]? :=by intro q hq;rw[zdZ hg,<-Array.getElem?_toList,<-zusZ ts m h q hq,<-hc,List.getElem?_take_of_lt (by omega)]
 exact⟨e 0 (by omega),e 1 (by omega),e 2 (by omega),e 3 (by omega)⟩
theorem Bld.kept {B b:Nat} {l:List UInt8} {w w':World} (h:Bld B b l w) (hg:w.grownBy w' none):Bld B b l w':=by
 have e:∀p,Lib.BuilderAt 100 5 B b p (Lib.byteCells l) w->Lib.BuilderAt 100 5 B b p (Lib.byteCells l) w':=by rintro p ⟨hB,v,hb,ho,H0⟩;exact⟨hB,v,(hg.block b (zaZ hb) (fun e=>nomatch e)).trans hb,ho.kept hg (by cases v.ownBlock <;> simp),H0⟩
 exact h.imp (e _) (e _)
theorem zeoZ (B b:Nat) (l:List UInt8) (w:World) (h:Bld B b l w):Calls Tryz.prog 92 #[.pointer (some ⟨b,0,none⟩)] w fun e w'=>e=.returned (.int .i64 l.length)/\w'=w:=by
 refine(Tryz.Builder_Len B b _ w h).mono ?_;rintro e w' ⟨rfl,rfl⟩;exact⟨by rw[zbrZ],rfl⟩
theorem zutZ (ts:List Lx.Tok) (v:Value) (w:World) (hG:GS w) (hN:NG<=w.heap.size) (hv:ToksIn w v ts) (hl:ts.length<=1000000000)
  (hts:∀t∈ts,t.s.length<=1000000000/\-9223372036854775808<=t.n/\t.n<=9223372036854775807) :
  Calls Tryz.prog 48 #[v] w fun e w'=>e=.returned (.tuple #[.string ⟨(Lx.join ts).1.toArray⟩,.int .i64 (Lx.join ts).2])/\Below w.heap.size w w':=by
 obtain⟨a0,cp,rfl⟩:∃a0 c,v=.slice a0 ts.length c:=by
  rcases hv with⟨rfl,a,c,rfl⟩ | ⟨g,c,cur,fr,rfl,_⟩
  ·exact⟨a,c,rfl⟩
  ·exact⟨_,c,rfl⟩
 have HV:=zh hv;clear hv;go_enter Tryz.func48, Tryz.ntmps48;have h0:Bld w.heap.size w.heap.size [] (w.alloc (.cells #[.pointer none,.slice none 0 0] 100)):=Lib.fresh_isBuilder _ _ _;have Hg:Below w.heap.size w (w.alloc (.cells #[.pointer none,.slice none 0 0] 100)):=(yqZ _ w).alloc (ybZ _) _;have HJ:Hid (Lx.join ts=match Lx.joinFrom 0 [] ts with | none=>([],1) | some b=>if 65536<b.length then([],2)else if 4096<ts.length then([],3)else(b,0)):=rfl;go_wp2;have H0:=zh h0;have Hf:=zh Hg;clear h0 Hg;go_loopg [11] (ts.length) (fun n v wr=>∃(m:Nat) (b:List UInt8),n=ts.length-m/\v=.int .i64 (m:Int)/\m<=ts.length/\Bld w.heap.size w.heap.size b wr/\Below w.heap.size w wr/\b.length<=3000100000/\Lx.joinFrom m b (ts.drop m)=Lx.joinFrom 0 [] ts)
 case atStart=>exact⟨0,[],rfl,rfl,yxZ _,H0.o,Hf.o,by simp,rfl⟩
 case round=>
  obtain⟨m,b,hn,rfl,hm,hB,hb,hbl,he⟩:=hrel;have HN:=zh hn;have HE:=zh he;clear hn he H0 Hf;by_cases hlt:m<ts.length
  ·have hi:(m:Int)<(ts.length:Int):=(by omega);have Ho:(0:Int)<=(m:Int):=(by omega);have Hd:(m:Int)<=1000000000:=(by omega);obtain⟨g,cur,fr,rfl,hgb,hcur⟩:∃g cur fr,a0=some ⟨g,0,none⟩/\w.heap[g]? =some (.cells cur 133 fr)/\cur.toList.take (ts.length * 4)=ts.flatMap cellsT:=by
    rcases HV.o with⟨h,_⟩ | ⟨g,c,cur,fr,h,h1,h2⟩
    ·rw[h]at hlt;simp at hlt
    ·injection h with h _ _;exact⟨g,cur,fr,h,h1,h2⟩
   have Hl:=zaZ hgb;have H4:=(hb.block g Hl).trans hgb;obtain⟨t0,t1,t2,t3⟩:=zgvZ H4 hcur hlt;have Hm:=zaZ H4;obtain⟨t,ht⟩:=zE (ts[m]'hlt);rw[ht]at t0 t1 t2 t3;obtain⟨ht1,ht2,ht3⟩:=hts t (by rw[<-ht];exact yfZ hlt);have Hi:=zh (show ts.drop m=t::ts.drop (m+1)by rw[List.drop_eq_getElem_cons hlt,ht]);clear ht hgb H4;have H1:Calls Tryz.prog 91 #[.agg #[.int .i64 t.pos,.int .i64 t.kind,.string ⟨t.s.toArray⟩,.int .i64 t.n]] (wr.alloc (.cells #[.int .i64 t.pos,.int .i64 t.kind,.string ⟨t.s.toArray⟩,.int .i64 t.n] 133)) fun e w'=>
     e=.returned (.tuple #[.string ⟨(Lx.written t).1.toArray⟩,.bool (Lx.written t).2])/\(wr.alloc (.cells #[.int .i64 t.pos,.int .i64 t.kind,.string ⟨t.s.toArray⟩,.int .i64 t.n] 133)).grownBy w' none/\Below w.heap.size w w'/\Bld w.heap.size w.heap.size b w':=
    (zobZ t _ ((hG.below hb).alloc _) (by have:=hb.size;simp;omega) ht1 ht2 ht3).mono fun e w' h=>⟨h.1,h.2,zeZ (((zbhZ hb).trans (yeZ _ _ _)).trans h.2),(hB.kept (yeZ _ _ _)).kept h.2⟩
   have Hj:=Lx.written_len t ht1 ht3;obtain⟨x,hx⟩:=zE ((Lx.written t).1);rw[hx]at H1 Hj;have Hk:=zh hx;clear hx;have H7:Lx.joinFrom m b (ts.drop m)=if(Lx.written t).2 then Lx.joinFrom (m+1) (Lx.joinStep m b x) (ts.drop (m+1))else none:=by rw[Hi.o];show(if(Lx.written t).2 then Lx.joinFrom (m+1) (Lx.joinStep m b (Lx.written t).1) (ts.drop (m+1))else none)=_;rw[Hk.o]
   have He:=zh (HE.o.symm.trans H7);clear H7
   cases hok:(Lx.written t).2 with
   | false=>have HR:=zh (show Lx.join ts=([],1)by rw[HJ.o,He.o,hok];rfl);rw[hok]at H1;clear hok;go_wp2_with (go_at_call 91;refine H1.mono ?_;clear H1;rintro e w5 ⟨rfl,H8,H2,hB5⟩;have H5:=H2.size);refine ylZ (yDZ rfl _ _ _) rfl ?_;rw[HR.o];exact⟨rfl,H2⟩
   | true=>
    have HR:=zh (show Lx.joinFrom (m+1) (Lx.joinStep m b x) (ts.drop (m+1))=Lx.joinFrom 0 [] ts by rw[He.o,hok];rfl);rw[hok]at H1;clear hok;by_cases hbig:65536<b.length
    ·have Ha:(65536:Int)<(b.length:Int):=(by omega);have H3:Lx.joinStep m b x=b:=(by unfold Lx.joinStep;rw[if_pos hbig]);rw[H3]at HR;clear H3;go_wp2_with (first | (go_at_call 91;refine H1.mono ?_;clear H1;rintro e w5 ⟨rfl,H8,H2,hB5⟩;have H5:=H2.size) | (go_at_call 92;refine(zeoZ _ _ _ _ hB5).mono ?_;rintro e w' ⟨rfl,rfl⟩));go_roundg (ts.length-(m+1))
     case measure=>have:=HN.o;omega
     case rel=>exact⟨m+1,b,rfl,by simp,hlt,hB5,H2,hbl,HR.o⟩
    ·have Ha:¬(65536:Int)<(b.length:Int):=(by omega);by_cases hm0:0<m
     ·have H9:(0:Int)<(m:Int):=(by omega);have H3:Lx.joinStep m b x=b++[32]++x:=(by unfold Lx.joinStep;rw[if_neg hbig,if_pos hm0]);rw[H3]at HR;clear H3;go_wp2_with (first | (go_at_call 91;refine H1.mono ?_;clear H1;rintro e w5 ⟨rfl,H8,H2,hB5⟩;have H5:=H2.size) | (go_at_call 92;refine(zeoZ _ _ _ _ hB5).mono ?_;rintro e w' ⟨rfl,rfl⟩) | (go_at_call 93;refine(zdqZ w.heap.size w.heap.size b 32 _ hB5 (by omega) H5).mono ?_;rintro e w6 ⟨rfl,h6,Hc⟩) | (go_at_call 94;refine(zkxZ w.heap.size w.heap.size (b++[32]) ⟨x.toArray⟩ _ h6 (by show(b++[32]).length+x.length<=_;simp;omega) (by have:=Hc.size;omega)).mono ?_;rintro e w7 ⟨rfl,h7,Hb⟩));go_roundg (ts.length-(m+1))
      case measure=>have:=HN.o;omega
      case rel=>exact⟨m+1,_,rfl,by simp,hlt,h7,(H2.trans Hc).trans Hb,by show(b++[32]++x).length<=_;simp;omega,HR.o⟩
     ·have H9:¬(0:Int)<(m:Int):=(by omega);have H3:Lx.joinStep m b x=b++x:=(by unfold Lx.joinStep;rw[if_neg hbig,if_neg hm0]);rw[H3]at HR;clear H3;go_wp2_with (first | (go_at_call 91;refine H1.mono ?_;clear H1;rintro e w5 ⟨rfl,H8,H2,hB5⟩;have H5:=H2.size) | (go_at_call 92;refine(zeoZ _ _ _ _ hB5).mono ?_;rintro e w' ⟨rfl,rfl⟩) | (go_at_call 94;refine(zkxZ w.heap.size w.heap.size b ⟨x.toArray⟩ _ hB5 (by show b.length+x.length<=_;omega) H5).mono ?_;rintro e w7 ⟨rfl,h7,Hb⟩));go_roundg (ts.length-(m+1))
      case measure=>have:=HN.o;omega
      case rel=>exact⟨m+1,_,rfl,by simp,hlt,h7,H2.trans Hb,by show(b++x).length<=_;simp;omega,HR.o⟩
  ·have Hh:m=ts.length:=(by omega);have hi:¬(m:Int)<(ts.length:Int):=(by omega);have H7:Lx.joinFrom 0 [] ts=some b:=(by rw[<-HE.o,yNZ (by omega)];rfl);have HR:=zh (show Lx.join ts=if 65536<b.length then([],2)else if 4096<ts.length then([],3)else(b,0)by rw[HJ.o,H7]);clear H7 Hh;have hB5:=hB;by_cases hbig:65536<b.length
   ·have Ha:(65536:Int)<(b.length:Int):=(by omega);have H6:=zh (show Lx.join ts=([],2)by rw[HR.o,if_pos hbig]);go_wp2_with (first | (go_at_call 92;refine(zeoZ _ _ _ _ hB5).mono ?_;rintro e w' ⟨rfl,rfl⟩));refine ylZ (yDZ rfl _ _ _) rfl ?_;rw[H6.o];exact⟨rfl,hb⟩
   ·have Ha:¬(65536:Int)<(b.length:Int):=(by omega);by_cases hmany:4096<ts.length
    ·have Hd:(4096:Int)<(ts.length:Int):=(by omega);have H6:=zh (show Lx.join ts=([],3)by rw[HR.o,if_neg hbig,if_pos hmany]);go_wp2_with (first | (go_at_call 92;refine(zeoZ _ _ _ _ hB5).mono ?_;rintro e w' ⟨rfl,rfl⟩));refine ylZ (yDZ rfl _ _ _) rfl ?_;rw[H6.o];exact⟨rfl,hb⟩
    ·have Hd:¬(4096:Int)<(ts.length:Int):=(by omega);have H6:=zh (show Lx.join ts=(b,0)by rw[HR.o,if_neg hbig,if_neg hmany]);go_wp2_with (first | (go_at_call 92;refine(zeoZ _ _ _ _ hB5).mono ?_;rintro e w' ⟨rfl,rfl⟩) | (go_at_call 95;refine(Tryz.Builder_String_any w.heap.size w.heap.size _ _ hB5 hb.size).mono ?_;rintro e w4 ⟨rfl,Hn⟩));refine ylZ (yDZ rfl _ _ _) rfl ?_;rw[H6.o];exact⟨rfl,hb.trans Hn⟩
theorem ToksIn.below {w w':World} {v:Value} {ts:List Lx.Tok} (h:ToksIn w v ts) (hb:Below w.heap.size w w'):ToksIn w' v ts:=by
 rcases h with h | ⟨g,c,cur,fr,h1,h2,h3⟩
 ·exact .inl h
 ·exact .inr ⟨g,c,cur,fr,h1,(hb.block g (zaZ h2)).trans h2,h3⟩
theorem ToksIn.slice {w:World} {v:Value} {ts:List Lx.Tok} (h:ToksIn w v ts):∃a c,v=.slice a ts.length c:=by
 rcases h with⟨rfl,a,c,rfl⟩ | ⟨g,c,cur,fr,rfl,_⟩
 ·exact⟨a,c,rfl⟩
 ·exact⟨_,c,rfl⟩
theorem ToksIn.at {w:World} {ts:List Lx.Tok} {a:Option Addr} {c m:Nat} (h:ToksIn w (.slice a ts.length c) ts) (hm:m<ts.length):∃g cur fr,a=some ⟨g,0,none⟩/\w.heap[g]? =some (.cells cur 133 fr)/\cur.toList.take (ts.length * 4)=ts.flatMap cellsT:=by
 rcases h with⟨h,_⟩ | ⟨g,c,cur,fr,h,h1,h2⟩
 ·rw[h]at hm;simp at hm
 ·injection h with h _ _;exact⟨g,cur,fr,h,h1,h2⟩
theorem Below.drewN {B:Nat} {w W:World} (h:Below B w W) (n:Nat):Below B w (W.drewN n):=⟨h.os,h.tape,h.output,h.size,h.block⟩
theorem zecZ {α:Type} {ts us:List α} {m:Nat} (h:ts.take m=us.take m) (h1:m<ts.length) (h2:m<us.length) (e:ts[m]=us[m]):ts.take (m+1)=us.take (m+1):=by
 rw[ykZ h1,ykZ h2,h,e]
structure GL (w:World):Prop where
 gs:GS w
theorem GL.below {w w':World} (h:GL w) (hb:Below w.heap.size w w'):GL w':=⟨h.gs.below hb⟩
theorem GL.alloc {w:World} (h:GL w) (o:Obj):GL (w.alloc o):=h.below (zeZ (yeZ _ _ _))
structure LW (w W:World):Prop where
 b:Below w.heap.size w W
 g:GL W
 n:NG<=W.heap.size
theorem LW.refl {w:World} (hG:GL w) (hN:NG<=w.heap.size):LW w w:=⟨yqZ _ _,hG,hN⟩
theorem LW.go {w W W':World} (h:LW w W) (hb:Below W.heap.size W W'):LW w W':=
 ⟨h.b.trans (hb.mono h.b.size),h.g.below hb,ymZ h.n hb.size⟩
theorem LW.alloc {w W:World} (h:LW w W) (o:Obj):LW w (W.alloc o):=h.go (zeZ (yeZ _ _ _))
theorem LW.drewN {w W:World} (h:LW w W) (n:Nat):LW w (W.drewN n):=h.go (Below.drewN (yqZ _ _) n)
end Go.Proofs.YtdncljdfmdgdaaaGreatDoor
