/-
  A cutter in memory: its one block; what the walks of package lex ask of the world.
-/
import Derived.Test.YtdncljdfmdgdaaaGreatDoorM1
import Derived.Deep.QuietTactic
import Derived.BigQuiet
import Derived.Deep.LoopGhost
import Derived.Lib.Strings
import Derived.Test.YtdncljdfmdgdaaaGreatDoorShelf
import Derived.Lib.IndexLaws
set_option linter.unusedSimpArgs false
set_option linter.unusedVariables false
namespace Go.Proofs.YtdncljdfmdgdaaaGreatDoor
open Go.RowKit
theorem zehZ {P:Program} {f:FuncId} {args:Array Value} {w:World} {n:Nat} {v:Value}
  (h:Calls P f args (w.drewN n) fun e w'=>e=.returned v∧w.drewN n=w'):Calls P f args (w.drewN n) fun e w''=>e=.returned v∧∃m,w''=w.drewN m:=
 h.mono fun _ _ ⟨he,hm⟩=>⟨he,n,hm.symm⟩
theorem zhbZ {P:Program} {f:FuncId} {args:Array Value} {w:World} {n:Nat} {v:Value}
  (h:Calls P f args (w.drewN n) fun e w'=>e=.returned v∧w'=w.drewN n):Calls P f args (w.drewN n) fun e w''=>e=.returned v∧∃m,w''=w.drewN m:=
 h.mono fun _ _ ⟨he,hm⟩=>⟨he,n,hm⟩
def Cu (w:World) (b:Nat) (s:ByteArray) (k:Nat):Prop:=w.heap[b]? =some (.cells #[.string s,.int .i64 (k:Int)] 171 (0,0))
section
variable {w w':World} {b:Nat} {s:ByteArray} {k:Nat}
theorem Cu.c0 (h:Cu w b s k):w.cell? ⟨b,0,none⟩=some (.string s):=by simp[World.cell?,show w.heap[b]? =_ from h]
theorem Cu.c1 (h:Cu w b s k):w.cell? ⟨b,1,none⟩=some (.int .i64 (k:Int)):=by simp[World.cell?,show w.heap[b]? =_ from h]
theorem Cu.f1 (h:Cu w b s k):w.frozen? ⟨b,1,none⟩=false:=by simp[World.frozen?,show w.heap[b]? =_ from h]
theorem Cu.lt (h:Cu w b s k):b<w.heap.size:=(Array.getElem?_eq_some_iff.1 h).1
theorem Cu.set (h:Cu w b s k) (j:Int) (m:Nat) (hj:j=(m:Int)):Cu (w.setCell ⟨b,1,none⟩ (.int .i64 j)) b s m:=by
 subst hj
 simp[Cu,World.setCell,Array.getElem?_modify,show w.heap[b]? =_ from h]
theorem Cu.drewN (h:Cu w b s k) (n:Nat):Cu (w.drewN n) b s k:=h
theorem Cu.alloc (h:Cu w b s k) (o:Obj):Cu (w.alloc o) b s k:=(Below.heap_alloc w o b h.lt).trans h
theorem Cu.kept (h:Cu w b s k) {row:Option Nat} (hg:w.grownBy w' row) (hr:some b≠row):Cu w' b s k:=(hg.block b h.lt hr).trans h
end
theorem zjZ (w:World) (b j:Nat) (v:Value):w.grownBy (w.setCell ⟨b,j,none⟩ v) (some b):=
 ⟨rfl,rfl,rfl,by simp[World.setCell],fun k hk hne=>Below.heap_setCell w _ _ k (fun e=>hne (by rw[e]))⟩
theorem zkZ (w:World) (n:Nat) (row:Option Nat):w.grownBy (w.drewN n) row:=⟨rfl,rfl,rfl,Nat.le_refl _,fun _ _ _=>rfl⟩
theorem zdZ {w:World} {g t:Nat} {cs:Array Value} {fr:Nat×Nat} (h:w.heap[g]? =some (.cells cs t fr)) (j:Nat):w.cell? ⟨g,j,none⟩=cs[j]? :=by simp[World.cell?,h]
theorem ztZ {w:World} {g t:Nat} {cs:Array Value} (h:w.heap[g]? =some (.cells cs t (0,0))) (j:Nat):w.frozen? ⟨g,j,none⟩=false:=by simp[World.frozen?,h]
theorem zaZ {w:World} {g:Nat} {o:Obj} (h:w.heap[g]? =some o):g<w.heap.size:=(Array.getElem?_eq_some_iff.1 h).1
theorem heap_alloc {w:World} {g:Nat} {o:Obj} (h:w.heap[g]? =some o) (o':Obj):(w.alloc o').heap[g]? =some o:=(Below.heap_alloc w o' g (zaZ h)).trans h
theorem zhZ {w:World} {g t:Nat} {a b c d:Value} (h:w.heap[g]? =some (.cells #[a,b,c,d] t (0,0))) :
  w.cell? ⟨g,0,none⟩=some a∧w.cell? ⟨g,1,none⟩=some b∧w.cell? ⟨g,2,none⟩=some c∧w.cell? ⟨g,3,none⟩=some d:=
 ⟨zdZ h 0,zdZ h 1,zdZ h 2,zdZ h 3⟩
theorem zrZ {w:World} {g t:Nat} {a b c d:Value} (h:w.heap[g]? =some (.cells #[a,b,c,d] t (0,0))) :
  w.frozen? ⟨g,0,none⟩=false∧w.frozen? ⟨g,1,none⟩=false∧w.frozen? ⟨g,2,none⟩=false∧w.frozen? ⟨g,3,none⟩=false:=
 ⟨ztZ h 0,ztZ h 1,ztZ h 2,ztZ h 3⟩
theorem zbeZ {w w1 w2:World} {b g:Nat} (h:w.grownBy w1 (some b)) (h':w1.grownBy w2 (some g)) (hg:w.heap.size≤g):w.grownBy w2 (some b):=
 ⟨h'.os.trans h.os,h'.tape.trans h.tape,h'.output.trans h.output,Nat.le_trans h.size h'.size,fun k hk hne=>
  (h'.block k (Nat.lt_of_lt_of_le hk h.size) (fun e=>by injection e with e;omega)).trans (h.block k hk hne)⟩
theorem Cu.far {w:World} {b k:Nat} {s:ByteArray} (h:Cu w b s k) {g:Nat} (hne:b≠g) (j:Nat) (v:Value):Cu (w.setCell ⟨g,j,none⟩ v) b s k:=
 (Below.heap_setCell w ⟨g,j,none⟩ v b hne).trans h
theorem zlZ (s:ByteArray) (k:Nat) (h:k<s.size):s.data.toList.drop k=s[k]::s.data.toList.drop (k+1):=by
 rw[List.drop_eq_getElem_cons (by simpa using h)]
 rfl
theorem zcfZ (s:ByteArray) (k m:Nat) (hkm:k≤m) (h:m<s.size):(s.data.toList.drop k).take (m+1-k)=(s.data.toList.drop k).take (m-k)++[s[m]]:=by
 have hl:m-k<(s.data.toList.drop k).length:=by
  rw[List.length_drop,Array.length_toList]
  have:s.data.size=s.size:=rfl
  omega
 rw[show m+1-k=(m-k)+1 from by omega,List.take_succ_eq_append_getElem hl]
 congr 2
 rw[List.getElem_drop]
 show s.data.toList[k+(m-k)]'_=s.data.toList[m]'_
 congr 1
 omega
theorem u8_eq (c:UInt8) (n:Nat) (h:n<256):c.toNat=n↔c=UInt8.ofNat n:=by
 constructor
 ·intro e
  apply UInt8.toNat_inj.1
  rw[e]
  simp[Nat.mod_eq_of_lt h]
 ·intro e
  rw[e]
  simp[Nat.mod_eq_of_lt h]
theorem ziZ (s:ByteArray):s.data.toList.length=s.size:=by rw[Array.length_toList];rfl
theorem zmvZ (l:List UInt8) (c:UInt8):decide (0≤Lib.indexByte l c)=l.contains c:=by
 have H0:=Lib.indexByte_ge l c
 rw[Bool.eq_iff_iff]
 simp only[decide_eq_true_eq,List.contains_iff_mem]
 by_cases h:Lib.indexByte l c=-1
 ·constructor
  ·intro;omega
  ·intro hm
   obtain⟨k,hk,e⟩:=List.getElem_of_mem hm
   exact absurd (by rw[List.getElem?_eq_getElem hk,e]) (Lib.indexByte_none h k)
 ·constructor
  ·intro h0
   obtain⟨o,ho⟩:=Int.eq_ofNat_of_zero_le h0
   exact List.mem_of_getElem? (Lib.indexByte_some ho).1
  ·intro;omega
theorem zfbZ (b:UInt8) (w:World):Calls Tryz.prog 126 #[.int .u8 (b.toNat:Int)] w fun e w'=>e=.returned (.bool (Lx.begins b))∧w=w':=by
 have hx:=zmvZ Lx.signs b
 go_enter Tryz.func126, Tryz.ntmps126
 go_wp2_with (first | (go_at_call 142;refine(zbmZ _ _).mono ?_;rintro e w' ⟨rfl,rfl⟩) | (go_at_call 143;refine(zbxZ _ _).mono ?_;rintro e w' ⟨rfl,rfl⟩) | (go_at_call 144;refine(Tryz.strings_IndexByte _ _ _).mono ?_;rintro e w' ⟨rfl,rfl⟩))
 all_goals
  go_ret
  refine⟨zbdZ ?_,rfl⟩
 ·simp[Lx.begins, *]
 ·simp[Lx.begins, *]
 ·have e:b.toNat=34:=by omega
  simp[Lx.begins,e]
 ·have e:(b.toNat==34)=false:=by simp;omega
  have e2:((b.toNat:Int)==34)=false:=by simp;omega
  change ((b.toNat:Int)==34||decide (0≤Lib.indexByte Lx.signs b))=_
  rw[hx,e2]
  simp[Lx.begins, *]
def IsRef (w:World) (g:Nat) (p y:Int):Prop:=w.heap[g]? =some (.cells #[.int .i64 p,.int .i64 y] 183 (0,0))
theorem zccZ (p y:Int) (w:World):Calls Tryz.prog 124 #[.int .i64 p,.int .i64 y] w fun e w'=>
  e=.returned (.pointer (some ⟨w.heap.size,0,none⟩))∧w'=w.alloc (.cells #[.int .i64 p,.int .i64 y] 183):=by
 go_enter Tryz.func124, Tryz.ntmps124
 go_wp2
 go_ret
 exact⟨rfl,rfl⟩
def wordCells:Array Value:=(Lx.words.map fun l=>Value.string ⟨l.toArray⟩).toArray
def wordText:ByteArray:={ data:=([116,121,112,101,32,109,101,116,104,111,100,32,102,117,110,99,32,109,97,105,110,32,105,110,116,101,114,102,97,99,101,32,101,109,98,101,100,32,105,110,116,32,98,111,111,108,32,116,101,120,116,32,102,110,32,108,101,116,32,112,114].append [105,110,116,32,105,102,32,101,108,115,101,32,119,104,105,108,101,32,114,101,116,117,114,110,32,110,105,108,32,110,101,119,32,116,111,32,97,110,100,32,111,114,32,110,111,116,32,116,114,117,101,32,102,97,108,115,101,32,115,101,108,102]).toArray }
theorem zixZ:wordText.size<4294967281:=by decide+kernel
theorem zjpZ:wordText.data.toList.all (fun b=>decide (b.toNat<128))=true:=by decide+kernel
theorem zhuZ (j:Nat) (b:UInt8) (h:wordText.data.toList[j]? =some b):b.toNat<128:=
 of_decide_eq_true (List.all_eq_true.1 zjpZ b (List.mem_of_getElem? h))
theorem zhcZ:Lib.fields wordText.data.toList=Lx.words:=by decide+kernel
theorem zqmZ (w:World) (htab:Lib.TabIs Tryz.prog w "strings.asciiSpace" .u8 Lib.asciiSpaceTab):Calls Tryz.prog 158 #[] w fun e w'=>
  e=.returned (.slice (some ⟨w.heap.size,0,none⟩) 25 25)∧w'=w.alloc (.cells wordCells 9):=by
 go_enter Tryz.func158, Tryz.ntmps158
 go_wp2_with (go_at_call 172;refine(Tryz.strings_Fields wordText _ zixZ zhuZ htab).mono ?_;rw[zhcZ];rintro e w' ⟨rfl,rfl⟩)
 go_ret
 exact⟨rfl,rfl⟩
theorem gAsc : Tryz.prog.globalNamed "strings.asciiSpace" =some 2 :=by kernel_rfl
theorem gPow : Tryz.prog.globalNamed "internal/strconv.uint64pow10" =some 0 :=by kernel_rfl
def ErrCell (w:World) (g:Nat):Prop:=∃ev,w.cell? ⟨g,0,none⟩=some ev∧(ev=.nilIface∨∃te pe,ev=.iface te pe)
structure GS (w:World):Prop where
 asc:Lib.TabIs Tryz.prog w "strings.asciiSpace" .u8 Lib.asciiSpaceTab
 pow:Lib.TabIs Tryz.prog w "internal/strconv.uint64pow10" .u64 Lib.pow10Tab
 syn:ErrCell w 4
 rng:ErrCell w 5
def NG:Nat:=1+max (max 2 0) (max 4 5)
theorem zdtZ {w:World} {n:String} {g:Nat} {cs:Array Value} (hg : Tryz.prog.globalNamed n=some g) (h:w.var? Tryz.prog n=some cs):g<w.heap.size:=by
 unfold World.var? at h
 rw[hg]at h
 simp only[Option.bind_some]at h
 rcases Nat.lt_or_ge g w.heap.size with h1 | h1
 ·exact h1
 ·rw[Array.getElem?_eq_none h1]at h
  cases h
theorem zctZ {w:World} {g:Nat} {v:Value} (h:w.cell? ⟨g,0,none⟩=some v):g<w.heap.size:=World.block_lt_of_cell? w ⟨g,0,none⟩ h
theorem GS.of_heap {w w':World} (h:GS w) (hk:∀k,k<NG→k<w.heap.size→w'.heap[k]? =w.heap[k]?):GS w':=by
 have ha:=zdtZ gAsc h.asc
 have hp:=zdtZ gPow h.pow
 obtain⟨e1,h1,h1'⟩:=h.syn
 obtain⟨e2,h2,h2'⟩:=h.rng
 have hs:=zctZ h1
 have hr:=zctZ h2
 refine⟨?_,?_,⟨e1,?_,h1'⟩,⟨e2,?_,h2'⟩⟩
 ·have:=h.asc
  unfold Lib.TabIs World.var? at this ⊢
  rw[gAsc]at this ⊢
  simp only[Option.bind_some]at this ⊢
  rw[hk _ (by decide) ha]
  exact this
 ·have:=h.pow
  unfold Lib.TabIs World.var? at this ⊢
  rw[gPow]at this ⊢
  simp only[Option.bind_some]at this ⊢
  rw[hk _ (by decide) hp]
  exact this
 ·rw[←h1];exact World.cell?_of_block (hk _ (by decide) hs)
 ·rw[←h2];exact World.cell?_of_block (hk _ (by decide) hr)
theorem GS.below {w w':World} (h:GS w) (hb:Below w.heap.size w w'):GS w':=h.of_heap fun k _ hk=>hb.block k hk
theorem GS.grown {w w':World} {b:Nat} (h:GS w) (hg:w.grownBy w' (some b)) (hb:NG≤b):GS w':=h.of_heap fun k hn hk=>hg.block k hk (fun e=>by injection e with e;omega)
theorem GS.alloc {w:World} (h:GS w) (o:Obj):GS (w.alloc o):=h.of_heap fun k _ hk=>Below.heap_alloc w o k hk
theorem GS.drewN {w:World} (h:GS w) (n:Nat):GS (w.drewN n):=h.of_heap fun _ _ _=>rfl
end Go.Proofs.YtdncljdfmdgdaaaGreatDoor
