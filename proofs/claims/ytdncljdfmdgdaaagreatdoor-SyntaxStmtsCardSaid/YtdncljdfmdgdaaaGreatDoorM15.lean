/-
  The walks of shapeOf, rightText, further.
-/
import Derived.Test.YtdncljdfmdgdaaaGreatDoorM14
set_option linter.unusedSimpArgs false
set_option linter.unusedVariables false
set_option maxRecDepth 100000
set_option maxHeartbeats 8000000
namespace Go.Proofs.YtdncljdfmdgdaaaGreatDoor
open Go.RowKit Go.Shelf Go.WideMaps
theorem zmpZ (k:Int) (w:World) (hk:1<=k/\k<=21) :
  Calls Tryz.prog 110 #[.int .i64 k] w fun e w'=>e=.returned (.tuple #[(Sx.shapeOf k).1.v,.bool (Sx.shapeOf k).2])/\Below w.heap.size w w':=by
 have H0:k=1\/k=2\/k=3\/k=4\/k=5\/k=6\/k=7\/k=8\/k=9\/k=10\/k=11\/k=12\/k=13\/k=14\/k=15\/k=16\/k=17\/k=18\/k=19\/k=20\/k=21:=by omega
 clear hk;rcases H0 with rfl | rfl | rfl | rfl | rfl | rfl | rfl | rfl | rfl | rfl | rfl | rfl | rfl | rfl | rfl | rfl | rfl | rfl | rfl | rfl | rfl
 all_goals
  go_enter Tryz.func110, Tryz.ntmps110
  go_wp2
  refine ylZ (v:=.tuple #[_,.bool true]) (by simp[results, Tryz.results110,go_sem];rfl) rfl ⟨rfl,?_⟩;exact(yqZ _ _).alloc (ybZ _) _
theorem zmqZ (k:Int) (w:World) (hk:¬(1<=k/\k<=21)) :
  Calls Tryz.prog 110 #[.int .i64 k] w fun e w'=>e=.returned (.tuple #[(Sx.shapeOf k).1.v,.bool (Sx.shapeOf k).2])/\Below w.heap.size w w':=by
 have hs:Sx.shapeOf k=(⟨0,false,false,false,0,0⟩,false):=by unfold Sx.shapeOf;rw[if_neg (by omega),if_neg (by omega),if_neg (by omega),if_neg (by omega),if_neg (by omega),if_neg (by omega),if_neg (by omega),if_neg (by omega),if_neg (by omega),if_neg (by omega),if_neg (by omega),if_neg (by omega)]
 rw[hs];have e1:(k==1)=false:=by rw[yaZ];omega
 have e2:(k==2)=false:=by rw[yaZ];omega
 have e3:(k==3)=false:=by rw[yaZ];omega
 have e4:(k==4)=false:=by rw[yaZ];omega
 have e5:(k==5)=false:=by rw[yaZ];omega
 have e6:(k==6)=false:=by rw[yaZ];omega
 have e7:(k==7)=false:=by rw[yaZ];omega
 have e8:(k==8)=false:=by rw[yaZ];omega
 have e9:(k==9)=false:=by rw[yaZ];omega
 have e10:(k==10)=false:=by rw[yaZ];omega
 have e11:(k==11)=false:=by rw[yaZ];omega
 have e12:(k==12)=false:=by rw[yaZ];omega
 have e13:(k==13)=false:=by rw[yaZ];omega
 have e14:(k==14)=false:=by rw[yaZ];omega
 have e15:(k==15)=false:=by rw[yaZ];omega
 have e16:(k==16)=false:=by rw[yaZ];omega
 have e17:(k==17)=false:=by rw[yaZ];omega
 have e18:(k==18)=false:=by rw[yaZ];omega
 have e19:(k==19)=false:=by rw[yaZ];omega
 have e20:(k==20)=false:=by rw[yaZ];omega
 have e21:(k==21)=false:=by rw[yaZ];omega
 clear hs hk;go_enter Tryz.func110, Tryz.ntmps110;go_wp2;refine ylZ (v:=.tuple #[_,.bool false]) (by simp[results, Tryz.results110,go_sem];rfl) rfl ⟨rfl,?_⟩;exact(yqZ _ _).alloc (ybZ _) _
theorem zojZ (k:Int) (w:World) :
  Calls Tryz.prog 110 #[.int .i64 k] w fun e w'=>e=.returned (.tuple #[(Sx.shapeOf k).1.v,.bool (Sx.shapeOf k).2])/\Below w.heap.size w w':=by
 by_cases hk:1<=k/\k<=21
 ·exact zmpZ k w hk
 ·exact zmqZ k w hk
theorem zlnZ (h:Sx.Sh) (s:Lx.Bytes) (w:World) (hG:GS w) (hN:NG<=w.heap.size) (hs:s.length<=1000000000) :
  Calls Tryz.prog 111 #[h.v,.string ⟨s.toArray⟩] w fun e w'=>e=.returned (.bool (Sx.rightText h s))/\Below w.heap.size w w':=by
 obtain⟨hs0,hn,ht,hnm,hl,hm⟩:=h;simp only[Sx.Sh.v,Sx.rightText];obtain⟨w2,hw2⟩:=zE (w.alloc (.cells #[.int .i64 hs0,.bool hn,.bool ht,.bool hnm,.int .i64 hl,.int .i64 hm] 160));obtain⟨L,hL⟩:=zE (w.heap.size);have H1:w2.heap[L]? =some (.cells #[.int .i64 hs0,.bool hn,.bool ht,.bool hnm,.int .i64 hl,.int .i64 hm] 160 (0,0)):=by rw[<-hw2,<-hL];exact ydZ w _
 have H2:Below w.heap.size w w2:=by rw[<-hw2];exact zeZ (yeZ w _ none)
 have c0:=zdZ H1 0;simp only[List.getElem?_toArray,List.getElem?_cons_zero]at c0;have H7:=zaZ H1;have H3:=zsqZ s w2 (hG.below H2) (ymZ hN H2.size) hs;have H4:=fun k=>synIs k s w2 (hG.below H2) (ymZ hN H2.size) hs;have H0:=zh H2;have H5:=zh H3;have H6:=zh H4;clear hG H1 H2 H3 H4;by_cases h1:hs0<0
 ·rw[if_pos h1];go_enter Tryz.func111, Tryz.ntmps111;go_wp2_with (go_at_call 134;refine H5.o.mono ?_;rintro e w3 ⟨rfl,h3⟩);go_ret;exact⟨rfl,H0.o.trans (h3.mono H0.o.size)⟩
 ·rw[if_neg h1];by_cases h2:hs0=0
  ·rw[if_pos h2];subst h2
   cases hse:s.isEmpty with
   | true=>
    have hl:s=[]:=List.isEmpty_iff.1 hse;go_enter Tryz.func111, Tryz.ntmps111;go_wp2_with fail;go_ret;exact⟨by first | rfl | simp,by first | exact H0.o | exact hL▸H0.o⟩
   | false=>
    go_enter Tryz.func111, Tryz.ntmps111
    go_wp2_with fail
    go_ret;exact⟨rfl,by first | exact H0.o | exact hL▸H0.o⟩
  ·rw[if_neg h2];have e0:(hs0==0)=false:=(by rw[yaZ];exact h2);clear h2;go_enter Tryz.func111, Tryz.ntmps111;go_wp2_with (go_at_call 133;refine(H6.o hs0).mono ?_;rintro e w3 ⟨rfl,h3⟩);go_ret;exact⟨rfl,H0.o.trans (h3.mono H0.o.size)⟩
def Sx.further (k:Int) (i:Nat):Nat:=if Sx.flat k=true/\i=0 then 0 else 1
theorem zokZ (k:Int) (i:Nat) (w:World) :
  Calls Tryz.prog 112 #[.int .i64 k,.int .i64 (i:Nat)] w fun e w'=>e=.returned (.int .i64 (Sx.further k i:Nat))/\w=w':=by
 have H3:(0:Int)<=(i:Int):=by omega
 have H0:Sx.flat k=decide ((9<=k/\k<=12)\/15<=k):=rfl
 cases hf:Sx.flat k with
 | true=>
  rw[hf]at H0;have hk:(9<=k/\k<=12)\/15<=k:=(by simpa using H0.symm);by_cases hz:i=0
  ·have HF:=zh (show Sx.further k i=0 by unfold Sx.further;rw[if_pos ⟨hf,hz⟩]);have b0:((i:Int)==0)=true:=(by rw[ytZ];omega);clear H0 hf hz;by_cases H1:15<=k
   ·have H2:decide (k<=12)=false:=(by rw[yvZ];omega);have h9:(9:Int)<=k:=(by omega);clear hk;go_enter Tryz.func112, Tryz.ntmps112;go_wp2_with fail;go_ret;exact⟨by rw[HF.o];rfl,rfl⟩
   ·have h9:(9:Int)<=k:=(by omega);have H2:k<=12:=(by omega);clear hk H1;go_enter Tryz.func112, Tryz.ntmps112;go_wp2_with fail;go_ret;exact⟨by rw[HF.o];rfl,rfl⟩
  ·have HF:=zh (show Sx.further k i=1 by unfold Sx.further;rw[if_neg (fun h=>hz h.2)]);have b0:((i:Int)==0)=false:=(by rw[yaZ];omega);clear H0 hf hz;by_cases H1:15<=k
   ·have H2:decide (k<=12)=false:=(by rw[yvZ];omega);have h9:(9:Int)<=k:=(by omega);clear hk;go_enter Tryz.func112, Tryz.ntmps112;go_wp2_with fail;go_ret;exact⟨by rw[HF.o];rfl,rfl⟩
   ·have h9:(9:Int)<=k:=(by omega);have H2:k<=12:=(by omega);clear hk H1;go_enter Tryz.func112, Tryz.ntmps112;go_wp2_with fail;go_ret;exact⟨by rw[HF.o];rfl,rfl⟩
 | false=>
  rw[hf]at H0;have hk:¬((9<=k/\k<=12)\/15<=k):=(by simpa using H0.symm);have HF:=zh (show Sx.further k i=1 by unfold Sx.further;rw[hf,if_neg (fun h=>by cases h.1)]);have H1:decide ((15:Int)<=k)=false:=(by rw[yvZ];omega);clear H0 hf;by_cases h9:9<=k
  ·have H2:decide (k<=12)=false:=(by rw[yvZ];omega);clear hk;go_enter Tryz.func112, Tryz.ntmps112;go_wp2_with fail;go_ret;exact⟨by rw[HF.o];rfl,rfl⟩
  ·have H4:decide ((9:Int)<=k)=false:=(by rw[yvZ];omega);clear hk h9;go_enter Tryz.func112, Tryz.ntmps112;go_wp2_with fail;go_ret;exact⟨by rw[HF.o];rfl,rfl⟩
end Go.Proofs.YtdncljdfmdgdaaaGreatDoor
