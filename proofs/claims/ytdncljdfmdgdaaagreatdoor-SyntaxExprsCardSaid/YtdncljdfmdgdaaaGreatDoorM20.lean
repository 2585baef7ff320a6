/-
  Plain: the shape that a kind of expressions asks for, by the program's table.
-/
import Derived.Test.YtdncljdfmdgdaaaGreatDoorM1
import Derived.Test.YtdncljdfmdgdaaaGreatDoorM19
set_option linter.unusedSimpArgs false
set_option linter.unusedVariables false
set_option maxRecDepth 100000
set_option maxHeartbeats 8000000
namespace Go.Proofs.YtdncljdfmdgdaaaGreatDoor
structure Sx.Sh where
 s:Int
 n:Bool
 t:Bool
 names:Bool
 least:Int
 most:Int
def Sx.Sh.v (h:Sx.Sh):Value:=.agg #[.int .i64 h.s,.bool h.n,.bool h.t,.bool h.names,.int .i64 h.least,.int .i64 h.most]
def Sx.shapeOf (k:Int):Sx.Sh×Bool:=
 if k=1∨k=3 then(⟨0,true,false,false,0,0⟩,true)
 else if k=2 then(⟨-1,false,false,false,0,0⟩,true)
 else if k=4 then(⟨1,false,false,false,0,0⟩,true)
 else if k=5 then(⟨0,false,false,false,0,0⟩,true)
 else if k=6 then(⟨0,false,true,false,0,0⟩,true)
 else if k=7∨k=8 then(⟨2,false,false,true,0,1073741824⟩,true)
 else if k=9 then(⟨1,false,false,false,1,1⟩,true)
 else if k=10 then(⟨1,false,false,false,1,1073741824⟩,true)
 else if k=11 then(⟨0,false,false,false,1,1073741824⟩,true)
 else if k=12 then(⟨0,false,true,false,1,1⟩,true)
 else if k=13∨k=14 then(⟨0,false,false,false,1,1⟩,true)
 else if 15≤k∧k≤21 then(⟨0,false,false,false,2,2⟩,true)
 else(⟨0,false,false,false,0,0⟩,false)
def Sx.rightText (h:Sx.Sh) (s:Lx.Bytes):Bool:=if h.s<0 then NM.said s else if h.s=0 then s.isEmpty else isTok h.s s
def Sx.b2 (ok d0 rt hn nz nn k3 n1:Bool):Bool:=!ok||(d0||(!rt||((!hn&&nz)||(nn||(k3&&n1)))))
def Sx.b4 (ht t1 t0 rt:Bool):Bool:=(ht != t1)||((!ht&&t0)||(ht&&!rt))
def Sx.b7 (hn nm ul n0 ls ms:Bool):Bool:=(hn&&(nm||!ul))||((!hn&&n0)||(ls||ms))
def Sx.right0 (t:List Sx.Ty):Bool:=match t with | []=>true | p::_=>Sx.rightT NM 64 p
def Sx.good (k n : Int) (s : Lx.Bytes) (t : List Sx.Ty) (ns : List Lx.Bytes) (m : Nat) : Bool :=
  let h := Sx.shapeOf k
  !Sx.b2 h.2 false (Sx.rightText h.1 s) h.1.n (n != 0) (decide (n < 0)) (k == 3) (decide (1 < n)) &&
  (!Sx.b4 h.1.t (t.length == 1) (decide (0 < t.length)) (Sx.right0 t) &&
   !Sx.b7 h.1.names (m != ns.length) (Sx.apart NM ns) (decide (0 < ns.length)) (decide ((m : Int) < h.1.least)) (decide (h.1.most < (m : Int))))
theorem Sx.rts1 {t:List Sx.Ty} (h:t.length=1):Sx.rightTs NM 64 t=Sx.right0 t:=by
 match t,h with
 | [p],_=>simp[Sx.rightTs,Sx.right0]
theorem Sx.good_none {k n:Int} {s:Lx.Bytes} {t:List Sx.Ty} {ns:List Lx.Bytes} {m:Nat} (hk:¬(1≤k∧k≤21)):Sx.shapeX NM k n s t ns m=Sx.good k n s t ns m:=by
 have h1:Sx.shapeX NM k n s t ns m=false:=by unfold Sx.shapeX;rw[decide_eq_false hk];rfl
 have h2:(Sx.shapeOf k).2=false:=by
  unfold Sx.shapeOf
  rw[if_neg (by omega),if_neg (by omega),if_neg (by omega),if_neg (by omega),if_neg (by omega),if_neg (by omega),if_neg (by omega),if_neg (by omega),if_neg (by omega),if_neg (by omega),if_neg (by omega),if_neg (by omega)]
 rw[h1]
 unfold Sx.good
 simp only[h2]
 simp[Sx.b2]
theorem Sx.good_eq {k n:Int} {s:Lx.Bytes} {t:List Sx.Ty} {ns:List Lx.Bytes} {m:Nat} (hm:m≤1000000):Sx.shapeX NM k n s t ns m=Sx.good k n s t ns m:=by
 by_cases hk:1≤k∧k≤21
 ·have H0:k=1∨k=2∨k=3∨k=4∨k=5∨k=6∨k=7∨k=8∨k=9∨k=10∨k=11∨k=12∨k=13∨k=14∨k=15∨k=16∨k=17∨k=18∨k=19∨k=20∨k=21:=by omega
  clear hk
  have H1:=fun h:t.length=1=>Sx.rts1 (t:=t) h
  have H2:(m:Int)≤1000000:=by omega
  rw[Bool.eq_iff_iff]
  rcases t with _ | ⟨p,_ | ⟨q,r⟩⟩
  all_goals
   rcases ns with _ | ⟨a,ns⟩
   all_goals
    rcases H0 with rfl | rfl | rfl | rfl | rfl | rfl | rfl | rfl | rfl | rfl | rfl | rfl | rfl | rfl | rfl | rfl | rfl | rfl | rfl | rfl | rfl
    all_goals
     simp[Sx.shapeX,Sx.good,Sx.shapeOf,Sx.b2,Sx.b4,Sx.b7,Sx.rightText,NM,Sx.rightTs,Sx.right0,Sx.apart]
  all_goals
   constructor
   all_goals
    intro h
    (repeat' apply And.intro)
    all_goals first | omega | exact h.1 | exact h.1.1 | exact h.2.2.1 | exact h.2.2.2.1 | exact h.2.1 | exact h.2.1.2 | (simp_all;done) | (obtain⟨⟨a1,a2⟩,a3⟩:=h;simp_all;omega)
 ·exact Sx.good_none hk
end Go.Proofs.YtdncljdfmdgdaaaGreatDoor
namespace Go.Proofs.YtdncljdfmdgdaaaGreatDoor
open Go.RowKit Go.Shelf Go.WideMaps
theorem zlmZ (k:Int) (w:World) (hk:1≤k∧k≤21) :
  Calls Tryz.prog 110 #[.int .i64 k] w fun e w'=>e=.returned (.tuple #[(Sx.shapeOf k).1.v,.bool (Sx.shapeOf k).2])∧Below w.heap.size w w':=by
 have H0:k=1∨k=2∨k=3∨k=4∨k=5∨k=6∨k=7∨k=8∨k=9∨k=10∨k=11∨k=12∨k=13∨k=14∨k=15∨k=16∨k=17∨k=18∨k=19∨k=20∨k=21:=by omega
 clear hk
 rcases H0 with rfl | rfl | rfl | rfl | rfl | rfl | rfl | rfl | rfl | rfl | rfl | rfl | rfl | rfl | rfl | rfl | rfl | rfl | rfl | rfl | rfl
 all_goals
  go_enter Tryz.func110, Tryz.ntmps110
  go_wp2
  refine bodyPost_ret (v:=.tuple #[_,.bool true]) (by simp[results, Tryz.results110,go_sem];rfl) rfl ⟨rfl,?_⟩
  exact(Below.refl _ _).alloc (Nat.le_refl _) _
theorem zlnZ (k:Int) (w:World) (hk:¬(1≤k∧k≤21)) :
  Calls Tryz.prog 110 #[.int .i64 k] w fun e w'=>e=.returned (.tuple #[(Sx.shapeOf k).1.v,.bool (Sx.shapeOf k).2])∧Below w.heap.size w w':=by
 have hs:Sx.shapeOf k=(⟨0,false,false,false,0,0⟩,false):=by
  unfold Sx.shapeOf
  rw[if_neg (by omega),if_neg (by omega),if_neg (by omega),if_neg (by omega),if_neg (by omega),if_neg (by omega),if_neg (by omega),if_neg (by omega),if_neg (by omega),if_neg (by omega),if_neg (by omega),if_neg (by omega)]
 rw[hs]
 have e1:(k==1)=false:=by rw[beq_eq_false_iff_ne];omega
 have e2:(k==2)=false:=by rw[beq_eq_false_iff_ne];omega
 have e3:(k==3)=false:=by rw[beq_eq_false_iff_ne];omega
 have e4:(k==4)=false:=by rw[beq_eq_false_iff_ne];omega
 have e5:(k==5)=false:=by rw[beq_eq_false_iff_ne];omega
 have e6:(k==6)=false:=by rw[beq_eq_false_iff_ne];omega
 have e7:(k==7)=false:=by rw[beq_eq_false_iff_ne];omega
 have e8:(k==8)=false:=by rw[beq_eq_false_iff_ne];omega
 have e9:(k==9)=false:=by rw[beq_eq_false_iff_ne];omega
 have e10:(k==10)=false:=by rw[beq_eq_false_iff_ne];omega
 have e11:(k==11)=false:=by rw[beq_eq_false_iff_ne];omega
 have e12:(k==12)=false:=by rw[beq_eq_false_iff_ne];omega
 have e13:(k==13)=false:=by rw[beq_eq_false_iff_ne];omega
 have e14:(k==14)=false:=by rw[beq_eq_false_iff_ne];omega
 have e15:(k==15)=false:=by rw[beq_eq_false_iff_ne];omega
 have e16:(k==16)=false:=by rw[beq_eq_false_iff_ne];omega
 have e17:(k==17)=false:=by rw[beq_eq_false_iff_ne];omega
 have e18:(k==18)=false:=by rw[beq_eq_false_iff_ne];omega
 have e19:(k==19)=false:=by rw[beq_eq_false_iff_ne];omega
 have e20:(k==20)=false:=by rw[beq_eq_false_iff_ne];omega
 have e21:(k==21)=false:=by rw[beq_eq_false_iff_ne];omega
 clear hs hk
 go_enter Tryz.func110, Tryz.ntmps110
 go_wp2
 refine bodyPost_ret (v:=.tuple #[_,.bool false]) (by simp[results, Tryz.results110,go_sem];rfl) rfl ⟨rfl,?_⟩
 exact(Below.refl _ _).alloc (Nat.le_refl _) _
theorem zngZ (k:Int) (w:World) :
  Calls Tryz.prog 110 #[.int .i64 k] w fun e w'=>e=.returned (.tuple #[(Sx.shapeOf k).1.v,.bool (Sx.shapeOf k).2])∧Below w.heap.size w w':=by
 by_cases hk:1≤k∧k≤21
 ·exact zlmZ k w hk
 ·exact zlnZ k w hk
theorem zkgZ (h:Sx.Sh) (s:Lx.Bytes) (w:World) (hG:GS w) (hN:NG≤w.heap.size) (hs:s.length≤1000000000) :
  Calls Tryz.prog 111 #[h.v,.string ⟨s.toArray⟩] w fun e w'=>e=.returned (.bool (Sx.rightText h s))∧Below w.heap.size w w':=by
 obtain⟨hs0,hn,ht,hnm,hl,hm⟩:=h
 simp only[Sx.Sh.v,Sx.rightText]
 obtain⟨w2,hw2⟩:=zE (w.alloc (.cells #[.int .i64 hs0,.bool hn,.bool ht,.bool hnm,.int .i64 hl,.int .i64 hm] 160))
 obtain⟨L,hL⟩:=zE (w.heap.size)
 have H1:w2.heap[L]? =some (.cells #[.int .i64 hs0,.bool hn,.bool ht,.bool hnm,.int .i64 hl,.int .i64 hm] 160 (0,0)):=by rw[←hw2,←hL];exact heap_alloc_new w _
 have H2:Below w.heap.size w w2:=by rw[←hw2];exact zeZ (World.grownBy_alloc w _ none)
 have c0:=zdZ H1 0
 simp only[List.getElem?_toArray,List.getElem?_cons_zero]at c0
 have H7:=zaZ H1
 have H3:=zrlZ s w2 (hG.below H2) (Nat.le_trans hN H2.size) hs
 have H4:=fun k=>synIs k s w2 (hG.below H2) (Nat.le_trans hN H2.size) hs
 have H0:=zh H2
 have H6:=zh H3
 have H5:=zh H4
 clear hG H1 H2 H3 H4
 by_cases h1:hs0<0
 ·rw[if_pos h1]
  go_enter Tryz.func111, Tryz.ntmps111
  go_wp2_with (go_at_call 134;refine H6.o.mono ?_;rintro e w3 ⟨rfl,h3⟩)
  go_ret
  exact⟨rfl,H0.o.trans (h3.mono H0.o.size)⟩
 ·rw[if_neg h1]
  by_cases h2:hs0=0
  ·rw[if_pos h2]
   subst h2
   cases hse:s.isEmpty with
   | true=>
    have hl:s=[]:=List.isEmpty_iff.1 hse
    go_enter Tryz.func111, Tryz.ntmps111
    go_wp2_with fail
    go_ret
    exact⟨by first | rfl | simp,by first | exact H0.o | exact hL▸H0.o⟩
   | false=>
    go_enter Tryz.func111, Tryz.ntmps111
    go_wp2_with fail
    go_ret
    exact⟨rfl,by first | exact H0.o | exact hL▸H0.o⟩
  ·rw[if_neg h2]
   have e0:(hs0==0)=false:=by rw[beq_eq_false_iff_ne];exact h2
   clear h2
   go_enter Tryz.func111, Tryz.ntmps111
   go_wp2_with (go_at_call 133;refine(H5.o hs0).mono ?_;rintro e w3 ⟨rfl,h3⟩)
   go_ret
   exact⟨rfl,H0.o.trans (h3.mono H0.o.size)⟩
def Sx.further (k:Int) (i:Nat):Nat:=if Sx.flat k=true∧i=0 then 0 else 1
theorem znhZ (k:Int) (i:Nat) (w:World) :
  Calls Tryz.prog 112 #[.int .i64 k,.int .i64 (i:Nat)] w fun e w'=>e=.returned (.int .i64 (Sx.further k i:Nat))∧w=w':=by
 have H3:(0:Int)≤(i:Int):=by omega
 have H0:Sx.flat k=decide ((9≤k∧k≤12)∨15≤k):=rfl
 cases hf:Sx.flat k with
 | true=>
  rw[hf]at H0
  have hk:(9≤k∧k≤12)∨15≤k:=by simpa using H0.symm
  by_cases hz:i=0
  ·have HF:=zh (show Sx.further k i=0 by unfold Sx.further;rw[if_pos ⟨hf,hz⟩])
   have b0:((i:Int)==0)=true:=by rw[beq_iff_eq];omega
   clear H0 hf hz
   by_cases H1:15≤k
   ·have H2:decide (k≤12)=false:=by rw[decide_eq_false_iff_not];omega
    have h9:(9:Int)≤k:=by omega
    clear hk
    go_enter Tryz.func112, Tryz.ntmps112
    go_wp2_with fail
    go_ret
    exact⟨by rw[HF.o];rfl,rfl⟩
   ·have h9:(9:Int)≤k:=by omega
    have H2:k≤12:=by omega
    clear hk H1
    go_enter Tryz.func112, Tryz.ntmps112
    go_wp2_with fail
    go_ret
    exact⟨by rw[HF.o];rfl,rfl⟩
  ·have HF:=zh (show Sx.further k i=1 by unfold Sx.further;rw[if_neg (fun h=>hz h.2)])
   have b0:((i:Int)==0)=false:=by rw[beq_eq_false_iff_ne];omega
   clear H0 hf hz
   by_cases H1:15≤k
   ·have H2:decide (k≤12)=false:=by rw[decide_eq_false_iff_not];omega
    have h9:(9:Int)≤k:=by omega
    clear hk
    go_enter Tryz.func112, Tryz.ntmps112
    go_wp2_with fail
    go_ret
    exact⟨by rw[HF.o];rfl,rfl⟩
   ·have h9:(9:Int)≤k:=by omega
    have H2:k≤12:=by omega
    clear hk H1
    go_enter Tryz.func112, Tryz.ntmps112
    go_wp2_with fail
    go_ret
    exact⟨by rw[HF.o];rfl,rfl⟩
 | false=>
  rw[hf]at H0
  have hk:¬((9≤k∧k≤12)∨15≤k):=by simpa using H0.symm
  have HF:=zh (show Sx.further k i=1 by unfold Sx.further;rw[hf,if_neg (fun h=>by cases h.1)])
  have H1:decide ((15:Int)≤k)=false:=by rw[decide_eq_false_iff_not];omega
  clear H0 hf
  by_cases h9:9≤k
  ·have H2:decide (k≤12)=false:=by rw[decide_eq_false_iff_not];omega
   clear hk
   go_enter Tryz.func112, Tryz.ntmps112
   go_wp2_with fail
   go_ret
   exact⟨by rw[HF.o];rfl,rfl⟩
  ·have H4:decide ((9:Int)≤k)=false:=by rw[decide_eq_false_iff_not];omega
   clear hk h9
   go_enter Tryz.func112, Tryz.ntmps112
   go_wp2_with fail
   go_ret
   exact⟨by rw[HF.o];rfl,rfl⟩
theorem zgnZ (k:Int) (w:World) (h1:1≤k) (h2:k≤21) :
  Calls Tryz.prog 136 #[.int .i64 k] w fun e w'=>e=.returned (.int .i64 (Sx.level k:Nat))∧w=w':=by
 have hk:k=1∨k=2∨k=3∨k=4∨k=5∨k=6∨k=7∨k=8∨k=9∨k=10∨k=11∨k=12∨k=13∨k=14∨k=15∨k=16∨k=17∨k=18∨k=19∨k=20∨k=21:=by omega
 clear h1 h2
 rcases hk with rfl | rfl | rfl | rfl | rfl | rfl | rfl | rfl | rfl | rfl | rfl | rfl | rfl | rfl | rfl | rfl | rfl | rfl | rfl | rfl | rfl
 all_goals
  go_enter Tryz.func136, Tryz.ntmps136
  go_wp2
  go_ret
  exact⟨rfl,rfl⟩
theorem zolZ (w:World):Calls Tryz.prog 137 #[.int .i64 15] w fun e w'=>e=.returned (.string ⟨(Sx.sign 15).toArray⟩)∧w=w':=by
 have H0:∀w,(Instr.index 190 (.agg #[.string ⟨#[]⟩,.string ⟨#[]⟩,.string ⟨#[]⟩,.string ⟨#[]⟩,.string ⟨#[]⟩,.string ⟨#[]⟩,.string ⟨#[]⟩,.string ⟨#[]⟩,.string ⟨#[]⟩,.string ⟨#[]⟩,.string ⟨#[]⟩,.string ⟨#[]⟩,.string ⟨#[]⟩,.string ⟨#[]⟩,.string ⟨#[]⟩,.string ⟨#[42]⟩,.string ⟨#[43]⟩,.string ⟨#[45]⟩,.string ⟨#[61,61]⟩,.string ⟨#[60]⟩,.string ⟨#[97,110,100]⟩,.string ⟨#[111,114]⟩]) (.int .i64 15)).run Tryz.prog w=.ok (.string ⟨#[42]⟩) w:=fun _=>by kernel_rfl
 go_enter Tryz.func137, Tryz.ntmps137
 go_wp2
 go_ret
 exact⟨rfl,rfl⟩
theorem zomZ (w:World):Calls Tryz.prog 137 #[.int .i64 16] w fun e w'=>e=.returned (.string ⟨(Sx.sign 16).toArray⟩)∧w=w':=by
 have H0:∀w,(Instr.index 190 (.agg #[.string ⟨#[]⟩,.string ⟨#[]⟩,.string ⟨#[]⟩,.string ⟨#[]⟩,.string ⟨#[]⟩,.string ⟨#[]⟩,.string ⟨#[]⟩,.string ⟨#[]⟩,.string ⟨#[]⟩,.string ⟨#[]⟩,.string ⟨#[]⟩,.string ⟨#[]⟩,.string ⟨#[]⟩,.string ⟨#[]⟩,.string ⟨#[]⟩,.string ⟨#[42]⟩,.string ⟨#[43]⟩,.string ⟨#[45]⟩,.string ⟨#[61,61]⟩,.string ⟨#[60]⟩,.string ⟨#[97,110,100]⟩,.string ⟨#[111,114]⟩]) (.int .i64 16)).run Tryz.prog w=.ok (.string ⟨#[43]⟩) w:=fun _=>by kernel_rfl
 go_enter Tryz.func137, Tryz.ntmps137
 go_wp2
 go_ret
 exact⟨rfl,rfl⟩
theorem zonZ (w:World):Calls Tryz.prog 137 #[.int .i64 17] w fun e w'=>e=.returned (.string ⟨(Sx.sign 17).toArray⟩)∧w=w':=by
 have H0:∀w,(Instr.index 190 (.agg #[.string ⟨#[]⟩,.string ⟨#[]⟩,.string ⟨#[]⟩,.string ⟨#[]⟩,.string ⟨#[]⟩,.string ⟨#[]⟩,.string ⟨#[]⟩,.string ⟨#[]⟩,.string ⟨#[]⟩,.string ⟨#[]⟩,.string ⟨#[]⟩,.string ⟨#[]⟩,.string ⟨#[]⟩,.string ⟨#[]⟩,.string ⟨#[]⟩,.string ⟨#[42]⟩,.string ⟨#[43]⟩,.string ⟨#[45]⟩,.string ⟨#[61,61]⟩,.string ⟨#[60]⟩,.string ⟨#[97,110,100]⟩,.string ⟨#[111,114]⟩]) (.int .i64 17)).run Tryz.prog w=.ok (.string ⟨#[45]⟩) w:=fun _=>by kernel_rfl
 go_enter Tryz.func137, Tryz.ntmps137
 go_wp2
 go_ret
 exact⟨rfl,rfl⟩
theorem zooZ (w:World):Calls Tryz.prog 137 #[.int .i64 18] w fun e w'=>e=.returned (.string ⟨(Sx.sign 18).toArray⟩)∧w=w':=by
 have H0:∀w,(Instr.index 190 (.agg #[.string ⟨#[]⟩,.string ⟨#[]⟩,.string ⟨#[]⟩,.string ⟨#[]⟩,.string ⟨#[]⟩,.string ⟨#[]⟩,.string ⟨#[]⟩,.string ⟨#[]⟩,.string ⟨#[]⟩,.string ⟨#[]⟩,.string ⟨#[]⟩,.string ⟨#[]⟩,.string ⟨#[]⟩,.string ⟨#[]⟩,.string ⟨#[]⟩,.string ⟨#[42]⟩,.string ⟨#[43]⟩,.string ⟨#[45]⟩,.string ⟨#[61,61]⟩,.string ⟨#[60]⟩,.string ⟨#[97,110,100]⟩,.string ⟨#[111,114]⟩]) (.int .i64 18)).run Tryz.prog w=.ok (.string ⟨#[61,61]⟩) w:=fun _=>by kernel_rfl
 go_enter Tryz.func137, Tryz.ntmps137
 go_wp2
 go_ret
 exact⟨rfl,rfl⟩
theorem zopZ (w:World):Calls Tryz.prog 137 #[.int .i64 19] w fun e w'=>e=.returned (.string ⟨(Sx.sign 19).toArray⟩)∧w=w':=by
 have H0:∀w,(Instr.index 190 (.agg #[.string ⟨#[]⟩,.string ⟨#[]⟩,.string ⟨#[]⟩,.string ⟨#[]⟩,.string ⟨#[]⟩,.string ⟨#[]⟩,.string ⟨#[]⟩,.string ⟨#[]⟩,.string ⟨#[]⟩,.string ⟨#[]⟩,.string ⟨#[]⟩,.string ⟨#[]⟩,.string ⟨#[]⟩,.string ⟨#[]⟩,.string ⟨#[]⟩,.string ⟨#[42]⟩,.string ⟨#[43]⟩,.string ⟨#[45]⟩,.string ⟨#[61,61]⟩,.string ⟨#[60]⟩,.string ⟨#[97,110,100]⟩,.string ⟨#[111,114]⟩]) (.int .i64 19)).run Tryz.prog w=.ok (.string ⟨#[60]⟩) w:=fun _=>by kernel_rfl
 go_enter Tryz.func137, Tryz.ntmps137
 go_wp2
 go_ret
 exact⟨rfl,rfl⟩
theorem zoqZ (w:World):Calls Tryz.prog 137 #[.int .i64 20] w fun e w'=>e=.returned (.string ⟨(Sx.sign 20).toArray⟩)∧w=w':=by
 have H0:∀w,(Instr.index 190 (.agg #[.string ⟨#[]⟩,.string ⟨#[]⟩,.string ⟨#[]⟩,.string ⟨#[]⟩,.string ⟨#[]⟩,.string ⟨#[]⟩,.string ⟨#[]⟩,.string ⟨#[]⟩,.string ⟨#[]⟩,.string ⟨#[]⟩,.string ⟨#[]⟩,.string ⟨#[]⟩,.string ⟨#[]⟩,.string ⟨#[]⟩,.string ⟨#[]⟩,.string ⟨#[42]⟩,.string ⟨#[43]⟩,.string ⟨#[45]⟩,.string ⟨#[61,61]⟩,.string ⟨#[60]⟩,.string ⟨#[97,110,100]⟩,.string ⟨#[111,114]⟩]) (.int .i64 20)).run Tryz.prog w=.ok (.string ⟨#[97,110,100]⟩) w:=fun _=>by kernel_rfl
 go_enter Tryz.func137, Tryz.ntmps137
 go_wp2
 go_ret
 exact⟨rfl,rfl⟩
theorem zorZ (w:World):Calls Tryz.prog 137 #[.int .i64 21] w fun e w'=>e=.returned (.string ⟨(Sx.sign 21).toArray⟩)∧w=w':=by
 have H0:∀w,(Instr.index 190 (.agg #[.string ⟨#[]⟩,.string ⟨#[]⟩,.string ⟨#[]⟩,.string ⟨#[]⟩,.string ⟨#[]⟩,.string ⟨#[]⟩,.string ⟨#[]⟩,.string ⟨#[]⟩,.string ⟨#[]⟩,.string ⟨#[]⟩,.string ⟨#[]⟩,.string ⟨#[]⟩,.string ⟨#[]⟩,.string ⟨#[]⟩,.string ⟨#[]⟩,.string ⟨#[42]⟩,.string ⟨#[43]⟩,.string ⟨#[45]⟩,.string ⟨#[61,61]⟩,.string ⟨#[60]⟩,.string ⟨#[97,110,100]⟩,.string ⟨#[111,114]⟩]) (.int .i64 21)).run Tryz.prog w=.ok (.string ⟨#[111,114]⟩) w:=fun _=>by kernel_rfl
 go_enter Tryz.func137, Tryz.ntmps137
 go_wp2
 go_ret
 exact⟨rfl,rfl⟩
theorem zmgZ (k:Int) (w:World) (h1:15≤k) (h2:k≤21) :
  Calls Tryz.prog 137 #[.int .i64 k] w fun e w'=>e=.returned (.string ⟨(Sx.sign k).toArray⟩)∧w=w':=by
 have hk:k=15∨k=16∨k=17∨k=18∨k=19∨k=20∨k=21:=by omega
 rcases hk with rfl | rfl | rfl | rfl | rfl | rfl | rfl
 ·exact zolZ w
 ·exact zomZ w
 ·exact zonZ w
 ·exact zooZ w
 ·exact zopZ w
 ·exact zoqZ w
 ·exact zorZ w
end Go.Proofs.YtdncljdfmdgdaaaGreatDoor
