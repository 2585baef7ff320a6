/-
  A row of bytes that the call itself makes: append of one byte, and the string of such a row.
-/
import Derived.Test.YtdncljdfmdgdaaaGreatDoorM1
import Derived.Test.YtdncljdfmdgdaaaGreatDoorM2
import Derived.Maps.AppendAt
import Derived.Test.YtdncljdfmdgdaaaGreatDoorShelf
import Derived.RangeFuncBox
set_option linter.unusedSimpArgs false
set_option linter.unusedVariables false
set_option maxRecDepth 100000
set_option maxHeartbeats 2000000
namespace Go.Proofs.YtdncljdfmdgdaaaGreatDoor
open Go.RowKit
def bytesV (l:List UInt8):List Value:=l.map fun c=>Value.int .u8 (c.toNat:Int)
theorem zfzZ (l:List UInt8) (c:UInt8):bytesV (l++[c])=bytesV l++[.int .u8 (c.toNat:Int)]:=by simp[bytesV]
def OwnB (w:World) (base:Nat) (v:Value) (l:List UInt8):Prop:=w.ownsRow base 5 1 v l.length (bytesV l)
theorem zczZ:(Tryz.prog.info? 5).map (fun i=>(i.zero,i.size,i.bytes))=some (some (.int .u8 0),1,1):=by kernel_rfl
theorem OwnB.nil (w:World) (base:Nat):OwnB w base (.slice none 0 0) []:=World.ownsRow_nil w base _ 1
theorem OwnB.alloc {w:World} {base:Nat} {v:Value} {l:List UInt8} (h:OwnB w base v l) (o:Obj):OwnB (w.alloc o) base v l:=World.ownsRow.alloc h o
theorem OwnB.drewN {w:World} {base:Nat} {v:Value} {l:List UInt8} (h:OwnB w base v l) (n:Nat):OwnB (w.drewN n) base v l:=World.ownsRow.kept h (zkZ w n none) (by cases v.ownBlock <;> simp)
theorem OwnB.set {w:World} {base b:Nat} {v:Value} {l:List UInt8} (h:OwnB w base v l) (hb:b<base) (j:Nat) (x:Value):OwnB (w.setCell ⟨b,j,none⟩ x) base v l:=
 World.ownsRow.kept h (zjZ w b j x) (by
  rcases hv:v.ownBlock with _ | g
  ·exact .inl rfl
  ·exact .inr fun e=>by
    injection e with e
    have:=(World.ownsRow.lt h g hv).1
    omega)
theorem OwnB.slice {w:World} {base:Nat} {v:Value} {l:List UInt8} (h:OwnB w base v l):∃A c,v=.slice A l.length c:=by
 rcases h.2 with⟨rfl,h0⟩ | ⟨g,cap,cur,rfl,_⟩
 ·exact⟨none,0,by rw[h0]⟩
 ·exact⟨_,cap,rfl⟩
theorem OwnB.base {w:World} {base:Nat} {v:Value} {l:List UInt8} (h:OwnB w base v l) (k:Nat) (hk:v.ownBlock=some k):base≤k:=(World.ownsRow.lt h k hk).1
theorem zcgZ {ops:Array Oper} {rest:List Oper} {o:Oper} {a:Act} {Q:Exit→Act→World→Prop} {W:World} (base:Nat) (hgd:o.guard=none) (s x:Operand)
  (ho:o.op=.call { callee:=.builtin .append,args:=#[s,x],argTypes:=#[98, 98] })
  (v:Value) (l:List UInt8) (c:UInt8) (hs:a.eval s=v) (hx:a.eval x=.slice (some ⟨W.heap.size,0,none⟩) 1 1) (HO:OwnB W base v l) (hbase:base≤W.heap.size) (hl:l.length≤140737488351232)
  (h:∀v1 w1,OwnB w1 base v1 (l++[c])→(W.alloc (.cells #[.int .u8 (c.toNat:Int)] 5)).grownBy w1 v.ownBlock→wpList Tryz.prog ops Q rest (a.put o.dst v1) w1) :
  wpList Tryz.prog ops Q (o::rest) a (W.alloc (.cells #[.int .u8 (c.toNat:Int)] 5)):=by
 obtain⟨i0,hi,hz0,hz1,hz2⟩:=info_parts zczZ
 refine wpList_append_own (W.alloc (.cells #[.int .u8 (c.toNat:Int)] 5)) hgd s x 98 ho base 5 i0 (.int .u8 0) 1 1 Tryz.underlying98 hi hz0 hz1 hz2 rfl (by decide) v l.length (bytesV l) hs (World.ownsRow.alloc HO _) ⟨W.heap.size,0,none⟩ 1 1 [.int .u8 (c.toNat:Int)] hx rfl (cell_one_new _ _ _) (by simp[Value.oneCell']) (by unfold maxLen;omega) (by omega) (by simp;omega) ?_
 intro v1 w1 hown hg _
 refine h v1 w1 ?_ hg
 unfold OwnB
 rw[zfzZ]
 simpa using hown
theorem zjqZ {ops:Array Oper} {o:Oper} {a:Act} {K:Act→World→Prop} {Q:Exit→Act→World→Prop} {E:Prop} {W:World} (base:Nat) (hgd:o.guard=none) (s x:Operand)
  (ho:o.op=.call { callee:=.builtin .append,args:=#[s,x],argTypes:=#[98, 98] })
  (v:Value) (l:List UInt8) (c:UInt8) (N:Nat) (hs:a.eval s=v) (hx:a.eval x=.slice (some ⟨N,0,none⟩) 1 1) (hN:W.heap[N]? =some (.cells #[.int .u8 (c.toNat:Int)] 5 (0,0)))
  (HO:OwnB W base v l) (hbase:base≤W.heap.size) (hl:l.length≤140737488351232)
  (h:∀v1 w1,OwnB w1 base v1 (l++[c])→W.grownBy w1 v.ownBlock→K (a.put o.dst v1) w1) :
  if Region.wanted o (yielded ops a.tmps)=true then Oper.wp Tryz.prog o a W K Q else E:=by
 obtain⟨i0,hi,hz0,hz1,hz2⟩:=info_parts zczZ
 rw[if_pos (by simp[Region.wanted,hgd])]
 refine wp_append_own W s x 98 ho base 5 i0 (.int .u8 0) 1 1 Tryz.underlying98 hi hz0 hz1 hz2 rfl (by decide) v l.length (bytesV l) hs HO ⟨N,0,none⟩ 1 1 [.int .u8 (c.toNat:Int)] hx rfl ?_ (by simp[Value.oneCell']) (by unfold maxLen;omega) (by omega) hbase ?_
 ·intro j u hj
  match j,hj with
  | 0,hj=>
   simp at hj
   subst hj
   show W.cell? ⟨N,0,none⟩=_
   rw[zdZ hN]
   rfl
 ·intro v1 w1 hown hg _
  refine h v1 w1 ?_ hg
  unfold OwnB
  rw[zfzZ]
  simpa using hown
theorem zdkZ {W:World} {base:Nat} {v:Value} {l:List UInt8} (h:OwnB W base v l):(convert 98 9 v).run Tryz.prog W=.ok (.string ⟨l.toArray⟩) W:=by
 rcases h.2 with⟨rfl,h0⟩ | ⟨g,cap,cur,rfl,hb,hg,hn,hm,hcs,ht⟩
 ·have:l=[]:=List.eq_nil_of_length_eq_zero h0
  subst this
  exact run_convert_bytes_nil W 98 5 Tryz.underlying98 Tryz.underlying5 0 0 _ Tryz.underlying9
 ·have e:(⟨l.toArray⟩:ByteArray)=strOfNums (l.map fun c=>(c.toNat:Int)):=by
   have:(l.map fun c=>(c.toNat:Int)).map (fun n=>UInt8.ofNat n.toNat)=l:=by
    rw[List.map_map]
    conv=>rhs;rw[←List.map_id l]
    congr 1
    funext c
    simp
   unfold strOfNums
   rw[this]
  rw[e]
  refine run_convert_bytes_arg W 98 5 Tryz.underlying98 Tryz.underlying5 g 0 l.length cap _ (by simp) (fun i hi=>?_) _ Tryz.underlying9
  have hc:=World.ownsRow.cells h (g:=g) rfl i (.int .u8 ((l.map fun c=>(c.toNat:Int)).getD i 0)) (by
   simp[bytesV,List.getD_eq_getElem?_getD,List.getElem?_eq_getElem hi])
  have ha:(⟨g,0,none⟩:Addr).add i=⟨g,0+i,none⟩:=by unfold Addr.add;split <;> simp_all
  rwa [ha]at hc
end Go.Proofs.YtdncljdfmdgdaaaGreatDoor
namespace Go.Proofs.YtdncljdfmdgdaaaGreatDoor
open Go.RowKit Go.Shelf
theorem zmaZ:(Tryz.prog.info? 100).map (·.size)=some 2:=by kernel_rfl
theorem zsyZ:liesAt Tryz.prog Tryz.prog.depth 100 (2 / Tryz.prog.cellsOf 100) 0 100 1=true:=by kernel_rfl
theorem zmbZ (b:Nat) (w:World) (h0:w.cell? ⟨b,0,none⟩=some (.pointer (some ⟨b,0,none⟩))) :
  Calls Tryz.prog 129 #[.pointer (some ⟨b,0,none⟩)] w fun e w'=>e=.returned (.tuple #[])∧w'=w:=by
 obtain⟨j,hj,_⟩:=Option.map_eq_some_iff.1 zmaZ
 go_enter Tryz.func129, Tryz.ntmps129
 go_wp2
 rw[Lib.run_neq_ptr_same w _ Tryz.underlying97 hj]
 go_wp2
 go_end0
 exact⟨rfl,rfl⟩
theorem zqnZ (b:Nat) (w:World) (h0:w.cell? ⟨b,0,none⟩=some (.pointer none)) (hsh:w.shape? b=some (100,2)) (hfz:w.frozen? ⟨b,0,none⟩=false) :
  Calls Tryz.prog 129 #[.pointer (some ⟨b,0,none⟩)] w fun e w'=>e=.returned (.tuple #[])∧w'=w.setCell ⟨b,0,none⟩ (.pointer (some ⟨b,0,none⟩)):=by
 obtain⟨j,hj,hjs⟩:=Option.map_eq_some_iff.1 zmaZ
 go_enter Tryz.func129, Tryz.ntmps129
 go_wp2
 rw[Lib.run_to_unsafe w ⟨b,0,none⟩ Tryz.underlying97 Tryz.underlying187 hj (by rw[hjs];decide) hsh (Nat.zero_lt_succ 1)]
 simp only[Result.andThen]
 rw[Oper.upon_value]
 go_wp2
 rw[run_callFunc_extern Tryz.func148 (by kernel_rfl) (by kernel_rfl) (by kernel_rfl) (e:=Extern.AbiNoEscape.same) (by kernel_rfl)]
 rw[Lib.run_noEscape]
 simp only[Result.andThen]
 rw[Oper.upon_value]
 go_wp2
 rw[Lib.run_from_unsafe w ⟨b,0,none⟩ Tryz.underlying187 Tryz.underlying97 hj hsh zsyZ]
 simp only[Result.andThen]
 rw[Oper.upon_value]
 go_wp2
 go_end0
 exact⟨rfl,rfl⟩
def Bld (B b:Nat) (l:List UInt8) (w:World):Prop:=Lib.IsBuilder 100 5 B b (Lib.byteCells l) w
theorem zjrZ (B b:Nat) (l:List UInt8) (w:World) (h:Bld B b l w) :
  Calls Tryz.prog 129 #[.pointer (some ⟨b,0,none⟩)] w fun e w'=>e=.returned (.tuple #[])∧(Lib.BuilderAt 100 5 B b (.pointer (some ⟨b,0,none⟩)) (Lib.byteCells l) w'∧Below B w w'):=by
 rcases h with h | h
 ·refine(zqnZ b w h.cell0 h.shape h.frozen0).mono ?_
  rintro e w' ⟨rfl,rfl⟩
  exact⟨rfl,h.used _,(Below.refl B w).setCell (p:=⟨b,0,none⟩) h.1 _⟩
 ·refine(zmbZ b w h.cell0).mono ?_
  rintro e w' ⟨rfl,rfl⟩
  exact⟨rfl,h,Below.refl B _⟩
theorem zboZ (l:List UInt8):(Lib.byteCells l).length=l.length:=by simp[Lib.byteCells]
theorem zdlZ (B b:Nat) (l:List UInt8) (c:UInt8) (w:World) (h:Bld B b l w) (hlen:l.length+1≤140737488355328) (hBw:B≤w.heap.size) :
  Calls Tryz.prog 93 #[.pointer (some ⟨b,0,none⟩),.int .u8 (c.toNat:Int)] w fun e w'=>e=.returned .nilIface∧Bld B b (l++[c]) w'∧Below B w w':=by
 obtain⟨i0,hi,hz0,hz1,hz2⟩:=info_parts zczZ
 have H4:=zboZ l
 go_enter Tryz.func93, Tryz.ntmps93
 go_wp2_with (go_at_call 129;refine(zjrZ B b l _ h).mono ?_)
 rintro e w1 ⟨rfl,h1,H2⟩
 obtain⟨hB,v,hbk,hown,hne⟩:=h1
 have H3:b<w1.heap.size:=zaZ hbk
 have c0:w1.cell? ⟨b,0,none⟩=some (.pointer (some ⟨b,0,none⟩)):=by rw[Lib.cell_of_heap hbk];rfl
 have c1:w1.cell? ⟨b,1,none⟩=some v:=by rw[Lib.cell_of_heap hbk];rfl
 have H5:=H2.size
 go_wp2_with (at_builtin;refine wpList_append_own _ rfl _ _ 98 rfl B 5 i0 (.int .u8 0) 1 1 Tryz.underlying98 hi hz0 hz1 hz2 rfl (by decide) _ _ _ rfl (hown.alloc _) ⟨w1.heap.size,0,none⟩ 1 1 [.int .u8 (c.toNat:Int)] rfl rfl (cell_one_new _ _ _) (by simp[Value.oneCell']) (by unfold maxLen;omega) (by omega) (by simp;omega) ?_)
 intro v' w2 hown' H0 _
 have H1:w2.heap[b]? =some (.cells #[.pointer (some ⟨b,0,none⟩),v] 100 (0,0)):=by
  rw[H0.block b (by simp;omega) (fun e=>hne e.symm),Lib.alloc_old w1 _ b H3]
  exact hbk
 have d0:w2.cell? ⟨b,0,none⟩=some (.pointer (some ⟨b,0,none⟩)):=by rw[Lib.cell_of_heap H1];rfl
 have d1:w2.cell? ⟨b,1,none⟩=some v:=by rw[Lib.cell_of_heap H1];rfl
 have f1:w2.frozen? ⟨b,1,none⟩=false:=Lib.frozen_of_heap H1 1
 obtain⟨g,cap,rfl⟩:=ownsRow_succ hown'
 go_wp2
 go_ret
 refine⟨rfl,.inr ?_,?_⟩
 ·have e:Lib.byteCells (l++[c])=Lib.byteCells l++[.int .u8 (c.toNat:Int)]:=by simp[Lib.byteCells]
  rw[e]
  exact Lib.BuilderAt.put (T:= 100) (e:= 5) hB H1 (bs':=Lib.byteCells l++[.int .u8 (c.toNat:Int)]) (by rw[show(Lib.byteCells l++[Value.int .u8 (c.toNat:Int)]).length=l.length+1 from by simp[zboZ]];exact hown') (by decide)
 ·exact((H2.alloc (by omega) _).grown H0 (by simp;omega) (fun k hk=>(hown.lt k hk).1)).setCell (p:=⟨b,1,none⟩) hB _
theorem zjsZ (B b:Nat) (l:List UInt8) (s:ByteArray) (w:World) (h:Bld B b l w) (hlen:l.length+s.size≤140737488355328) (hBw:B≤w.heap.size) :
  Calls Tryz.prog 94 #[.pointer (some ⟨b,0,none⟩),.string s] w fun e w'=>e=.returned (.tuple #[.int .i64 s.size,.nilIface])∧Bld B b (l++s.data.toList) w'∧Below B w w':=by
 obtain⟨i0,hi,hz0,hz1,hz2⟩:=info_parts zczZ
 have H4:=zboZ l
 go_enter Tryz.func94, Tryz.ntmps94
 go_wp2_with (go_at_call 129;refine(zjrZ B b l _ h).mono ?_)
 rintro e w1 ⟨rfl,h1,H2⟩
 obtain⟨hB,v,hbk,hown,hne⟩:=h1
 have H3:b<w1.heap.size:=zaZ hbk
 have c0:w1.cell? ⟨b,0,none⟩=some (.pointer (some ⟨b,0,none⟩)):=by rw[Lib.cell_of_heap hbk];rfl
 have c1:w1.cell? ⟨b,1,none⟩=some v:=by rw[Lib.cell_of_heap hbk];rfl
 have H5:=H2.size
 go_wp2_with (at_builtin;refine Lib.wpList_append_own_string (P:= Tryz.prog) (w:=w1) rfl _ _ 98 9 rfl B 5 i0 Tryz.underlying98 Tryz.underlying9 hi hz0 hz1 hz2 _ _ _ rfl hown s rfl (by unfold maxLen;omega) (by omega) (by omega) ?_)
 intro v' w2 hown' H0 _
 have H1:w2.heap[b]? =some (.cells #[.pointer (some ⟨b,0,none⟩),v] 100 (0,0)):=by
  rw[H0.block b H3 (fun e=>hne e.symm)]
  exact hbk
 have d0:w2.cell? ⟨b,0,none⟩=some (.pointer (some ⟨b,0,none⟩)):=by rw[Lib.cell_of_heap H1];rfl
 have d1:w2.cell? ⟨b,1,none⟩=some v:=by rw[Lib.cell_of_heap H1];rfl
 have f1:w2.frozen? ⟨b,1,none⟩=false:=Lib.frozen_of_heap H1 1
 obtain⟨A0,cap,rfl⟩:∃A c,v'=.slice A (l.length+s.size) c:=by
  rcases hown'.2 with⟨rfl,h0⟩ | ⟨g,cap,cur,rfl,_⟩
  ·exact⟨none,0,by rw[h0]⟩
  ·exact⟨_,cap,rfl⟩
 go_wp2
 refine bodyPost_ret (results_tmp2 rfl _ _ _) rfl ?_
 refine⟨rfl,.inr ?_,?_⟩
 ·have e:Lib.byteCells (l++s.data.toList)=Lib.byteCells l++Lib.strCells s:=by simp[Lib.byteCells,Lib.strCells]
  rw[e]
  exact Lib.BuilderAt.put (T:= 100) (e:= 5) hB H1 (bs':=Lib.byteCells l++Lib.strCells s) (by rw[show(Lib.byteCells l++Lib.strCells s).length=l.length+s.size from hown'.1.trans (Nat.mul_one _)];exact hown') (by decide)
 ·exact(H2.grown H0 (by omega) (fun k hk=>(hown.lt k hk).1)).setCell (p:=⟨b,1,none⟩) hB _
end Go.Proofs.YtdncljdfmdgdaaaGreatDoor
namespace Go.Proofs.YtdncljdfmdgdaaaGreatDoor
open Go.RowKit
def skipAt (s:ByteArray) (k:Nat):Nat:=s.size-(Lx.skip false (s.data.toList.drop k)).length
theorem zifZ {s:ByteArray} {k m:Nat} (h:Lx.skip false (s.data.toList.drop k)=s.data.toList.drop m) (hm:m≤s.size):skipAt s k=m:=by
 unfold skipAt
 rw[h,List.length_drop,ziZ]
 omega
end Go.Proofs.YtdncljdfmdgdaaaGreatDoor
