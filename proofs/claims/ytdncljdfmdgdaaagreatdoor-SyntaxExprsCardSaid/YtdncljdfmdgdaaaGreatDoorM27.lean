/-
  Small helpers of the laws.
-/
import Derived.Test.YtdncljdfmdgdaaaGreatDoorM1
import Derived.Test.YtdncljdfmdgdaaaGreatDoorM8
import Derived.Test.YtdncljdfmdgdaaaGreatDoorM24
import Derived.Test.YtdncljdfmdgdaaaGreatDoorM15
import Derived.Test.YtdncljdfmdgdaaaGreatDoorM16
import Derived.Test.YtdncljdfmdgdaaaGreatDoorM23
import Derived.Test.YtdncljdfmdgdaaaGreatDoorM22
import Derived.Test.YtdncljdfmdgdaaaGreatDoorM17
import Derived.Test.YtdncljdfmdgdaaaGreatDoorM26
import Derived.Test.YtdncljdfmdgdaaaGreatDoorM19
set_option linter.unusedSimpArgs false
set_option linter.unusedVariables false
namespace Go.Proofs.YtdncljdfmdgdaaaGreatDoor
open Go.RowKit Go.Shelf
theorem zviZ (w:World) (base:Nat) (c:UInt8) (hb:base≤w.heap.size):OwnB (w.alloc (.cells #[.int .u8 (c.toNat:Int)] 5)) base (.slice (some ⟨w.heap.size,0,none⟩) 1 1) [c]:=
 ⟨rfl,.inr ⟨w.heap.size,1,#[.int .u8 (c.toNat:Int)],rfl,hb,heap_alloc_new w _,Nat.le_refl _,by unfold maxLen;omega,rfl,rfl⟩⟩
theorem LW.trans {w W X:World} (h:LW w W) (h':LW W X):LW w X:=⟨h.b.trans (h'.b.mono h.b.size),h'.g,h'.n⟩
theorem LW.self {w W:World} (h:LW w W):LW W W:=LW.refl h.g h.n
def RunsOk:Prop:=∀(w0:World),GL w0→NG≤w0.heap.size→Calls Tryz.prog 3 #[] w0 fun e w'=>e=.returned (.bool true)∧LW w0 w'
theorem RunsOk.at (h:RunsOk) {w X:World} (hX:LW w X):Calls Tryz.prog 3 #[] X fun e w'=>e=.returned (.bool true)∧LW w w':=
 (h X hX.g hX.n).mono fun e w' ⟨h1,h2⟩=>⟨h1,hX.go h2.b⟩
structure TwoSt (w:World) (c0 c1:Array Value) (X:World):Prop where
 lw:LW w X
 k0:X.heap[w.heap.size]? =some (.cells c0 26 (0,0))
 k1:X.heap[w.heap.size+1]? =some (.cells c1 26 (0,0))
theorem TwoSt.go {w X X':World} {c0 c1:Array Value} (h:TwoSt w c0 c1 X) (hb:Below X.heap.size X X'):TwoSt w c0 c1 X':=
 ⟨h.lw.go hb,(hb.block _ (zaZ h.k0)).trans h.k0,(hb.block _ (zaZ h.k1)).trans h.k1⟩
theorem TwoSt.lt {w X:World} {c0 c1:Array Value} (h:TwoSt w c0 c1 X):w.heap.size<X.heap.size∧w.heap.size+1<X.heap.size:=⟨zaZ h.k0,zaZ h.k1⟩
theorem TwoSt.first {w:World} (hG:GL w) (hN:NG≤w.heap.size) (c0 c1:Array Value):TwoSt w c0 c1 ((w.alloc (.cells c0 26)).alloc (.cells c1 26)):=by
 refine⟨((LW.refl hG hN).alloc _).alloc _,heap_alloc (heap_alloc_new w _) _,?_⟩
 have:=heap_alloc_new (w.alloc (.cells c0 26)) (.cells c1 26)
 rw[show(w.alloc (.cells c0 26)).heap.size=w.heap.size+1 by simp]at this
 exact this
end Go.Proofs.YtdncljdfmdgdaaaGreatDoor
namespace Go.Proofs.YtdncljdfmdgdaaaGreatDoor
mutual
def Sx.sizeS:Sx.St→Nat
 | .mk _ _ nm t x b e=>1+nm.length+Sx.sizeL t+Sx.sizeXs x+Sx.sizeSs b+Sx.sizeSs e
def Sx.sizeSs:List Sx.St→Nat
 | []=>0
 | s::l=>Sx.sizeS s+Sx.sizeSs l
end
theorem Sx.sizeS_parts (s:Sx.St):Sx.sizeS s=1+s.name.length+Sx.sizeL s.t+Sx.sizeXs s.x+Sx.sizeSs s.body+Sx.sizeSs s.els:=by cases s;rw[Sx.sizeS];rfl
theorem Sx.sizeS_pos (s:Sx.St):1≤Sx.sizeS s:=by rw[Sx.sizeS_parts];omega
theorem Sx.sizeS_mem:∀ {l:List Sx.St} {x:Sx.St},x∈l→Sx.sizeS x≤Sx.sizeSs l
 | u::l,t,h=>by
  rw[Sx.sizeSs]
  rcases List.mem_cons.1 h with rfl | h
  ·omega
  ·have:=Sx.sizeS_mem h;omega
theorem Sx.length_sizeSs:∀(l:List Sx.St),l.length≤Sx.sizeSs l
 | []=>by simp[Sx.sizeSs]
 | t::l=>by
  rw[Sx.sizeSs,List.length_cons]
  have:=Sx.length_sizeSs l
  have:=Sx.sizeS_pos t
  omega
end Go.Proofs.YtdncljdfmdgdaaaGreatDoor
