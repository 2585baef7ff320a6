/-
  The walks of shapeOf, rightText, further.
-/
import Derived.Test.YtdncljdfmdgdaaaGreatDoorM1
import Derived.Test.YtdncljdfmdgdaaaGreatDoorM9
set_option linter.unusedSimpArgs false
set_option linter.unusedVariables false
set_option maxRecDepth 100000
set_option maxHeartbeats 8000000
namespace Go.Proofs.YtdncljdfmdgdaaaGreatDoor
open Go.RowKit Go.Shelf Go.WideMaps
theorem zmpZ (k:Int) (w:World) (hk:1<=k/\k<=21) :
  Calls Tryz.prog 110 #[.int .i64 k] w fun e w'=>e=.returned (.tuple #[(Sx.shapeOf k).1.v,.bool (Sx.shapeOf k).2])/\Below w.heap.size w w':=by
 have H0:k=1\/k=2\/k=3\/k=4\/k=5\/k=6\/k=7\/k=8\/k=9\/k=10\/k=11\/k=12\/k=13\/k=14\/k=15\/k=16\/k=17\/k=18\/k=19\/k=20\/k=21:=by omega
 clear hk;rcases H0 with rfl | rfl | rfl | rfl | rfl | rfl | rfl | rfl | rfl | rfl | rfl | rfl | rfl | rfl | rfl | rfl | rfl | rfl | rfl | rfl | rfl
 all_goals
  go_enter Tryz.func110, Tryz.ntmps110
  go_wp2
  refine ylZ (v:=.tuple #[_,.bool true]) (by simp[results, Tryz.results110,go_sem];rfl) rfl ⟨rfl,?_⟩;exact(yqZ _ _).alloc (ybZ _) _
theorem zmqZ (k:Int) (w:World) (hk:¬(1<=k/\k<=21)) :
  Calls Tryz.prog 110 #[.int .i64 k] w fun e w'=>e=.returned (.tuple #[(Sx.shapeOf k).1.v,.bool (Sx.shapeOf k).2])/\Below w.heap.size w w':=by
 have hs:Sx.shapeOf k=(⟨0,false,false,false,0,0⟩,false):=by unfold Sx.shapeOf;rw[if_neg (by omega),if_neg (by omega),if_neg (by omega),if_neg (by omega),if_neg (by omega),if_neg (by omega),if_neg (by omega),if_neg (by omega),if_neg (by omega),if_neg (by omega),if_neg (by omega),if_neg (by omega)]
 rw[hs];have e1:(k==1)=false:=by rw[yaZ];omega
 have e2:(k==2)=false:=by rw[yaZ];omega
 have e3:(k==3)=false:=by rw[yaZ];omega
 have e4:(k==4)=false:=by rw[yaZ];omega
 have e5:(k==5)=false:=by rw[yaZ];omega
 have e6:(k==6)=false:=by rw[yaZ];omega
 have e7:(k==7)=false:=by rw[yaZ];omega
 have e8:(k==8)=false:=by rw[yaZ];omega
 have e9:(k==9)=false:=by rw[yaZ];omega
 have e10:(k==10)=false:=by rw[yaZ];omega
 have e11:(k==11)=false:=by rw[yaZ];omega
 have e12:(k==12)=false:=by rw[yaZ];omega
 have e13:(k==13)=false:=by rw[yaZ];omega
 have e14:(k==14)=false:=by rw[yaZ];omega
 have e15:(k==15)=false:=by rw[yaZ];omega
 have e16:(k==16)=false:=by rw[yaZ];omega
 have e17:(k==17)=false:=by rw[yaZ];omega
 have e18:(k==18)=false:=by rw[yaZ];omega
 have e19:(k==19)=false:=by rw[yaZ];omega
 have e20:(k==20)=false:=by rw[yaZ];omega
 have e21:(k==21)=false:=by rw[yaZ];omega
 clear hs hk;go_enter Tryz.func110, Tryz.ntmps110;go_wp2;refine ylZ (v:=.tuple #[_,.bool false]) (by simp[results, Tryz.results110,go_sem];rfl) rfl ⟨rfl,?_⟩;exact(yqZ _ _).alloc (ybZ _) _
theorem zojZ (k:Int) (w:World) :
  Calls Tryz.prog 110 #[.int .i64 k] w fun e w'=>e=.returned (.tuple #[(Sx.shapeOf k).1.v,.bool (Sx.shapeOf k).2])/\Below w.heap.size w w':=by
 by_cases hk:1<=k/\k<=21
 ·exact zmpZ k w hk
 ·exact zmqZ k w hk
theorem zlnZ (h:Sx.Sh) (s:Lx.Bytes) (w:World) (hG:GS w) (hN:NG<=w.heap.size) (hs:s.length<=1000000000) :
  Calls Tryz.prog 111 #[h.v,.string ⟨s.toArray⟩] w fun e w'=>e=.returned (.bool (Sx.rightText h s))/\Below w.heap.size w w':=by
 obtain⟨hs0,hn,ht,hnm,hl,hm⟩:=h;simp only[Sx.Sh.v,Sx.rightText];obtain⟨w2,hw2⟩:=zE (w.alloc (.cells #[.int .i64 hs0,.bool hn,.bool ht,.bool hnm,.int .i64 hl,.int .i64 hm] 160));obtain⟨L,hL⟩:=zE (w.heap.size);have H1:w2.heap[L]? =some (.cells #[.int .i64 hs0,.bool hn,.bool ht,.bool hnm,.int .i64 hl,.int .i64 hm] 160 (0,0)):=by rw[<-hw2,<-hL];exact ydZ w _
 have H2:Below w.heap.size w w2:=by rw[<-hw2];exact zeZ (yeZ w _ none)
 have c0:=zdZ H1 0;simp only[List.getElem?_toArray,List.getElem?_cons_zero]at c0;have H7:=zaZ H1;have H4:=zsqZ s w2 (hG.below H2) (ymZ hN H2.size) hs;have H3:=fun k=>synIs k s w2 (hG.below H2) (ymZ hN H2.size) hs;have H0:=zh H2;have H6:=zh H4;have H5:=zh H3;clear hG H1 H2 H4 H3;by_cases h1:hs0<0
 ·rw[if_pos h1];go_enter Tryz.func111, Tryz.ntmps111;go_wp2_with (go_at_call 134;refine H6.o.mono ?_;rintro e w3 ⟨rfl,h3⟩);go_ret;exact⟨rfl,H0.o.trans (h3.mono H0.o.size)⟩
 ·rw[if_neg h1];by_cases h2:hs0=0
  ·rw[if_pos h2];subst h2
   cases hse:s.isEmpty with
   | true=>
    have hl:s=[]:=List.isEmpty_iff.1 hse;go_enter Tryz.func111, Tryz.ntmps111;go_wp2_with fail;go_ret;exact⟨by first | rfl | simp,by first | exact H0.o | exact hL▸H0.o⟩
   | false=>
    go_enter Tryz.func111, Tryz.ntmps111
    go_wp2_with fail
    go_ret;exact⟨rfl,by first | exact H0.o | exact hL▸H0.o⟩
  ·rw[if_neg h2];have e0:(hs0==0)=false:=(by rw[yaZ];exact h2);clear h2;go_enter Tryz.func111, Tryz.ntmps111;go_wp2_with (go_at_call 133;refine(H5.o hs0).mono ?_;rintro e w3 ⟨rfl,h3⟩);go_ret;exact⟨rfl,H0.o.trans (h3.mono H0.o.size)⟩
def Sx.further (k:Int) (i:Nat):Nat:=if Sx.flat k=true/\i=0 then 0 else 1
theorem zokZ (k:Int) (i:Nat) (w:World) :
  Calls Tryz.prog 112 #[.int .i64 k,.int .i64 (i:Nat)] w fun e w'=>e=.returned (.int .i64 (Sx.further k i:Nat))/\w=w':=by
 have H3:(0:Int)<=(i:Int):=by omega
 have H0:Sx.flat k=decide ((9<=k/\k<=12)\/15<=k):=rfl
 cases hf:Sx.flat k with
 | true=>
  rw[hf]at H0;have hk:(9<=k/\k<=12)\/15<=k:=(by simpa using H0.symm);by_cases hz:i=0
  ·have HF:=zh (show Sx.further k i=0 by unfold Sx.further;rw[if_pos ⟨hf,hz⟩]);have b0:((i:Int)==0)=true:=(by rw[ytZ];omega);clear H0 hf hz;by_cases H1:15<=k
   ·have H2:decide (k<=12)=false:=(by rw[yvZ];omega);have h9:(9:Int)<=k:=(by omega);clear hk;go_enter Tryz.func112, Tryz.ntmps112;go_wp2_with fail;go_ret;exact⟨by rw[HF.o];rfl,rfl⟩
   ·have h9:(9:Int)<=k:=(by omega);have H2:k<=12:=(by omega);clear hk H1;go_enter Tryz.func112, Tryz.ntmps112;go_wp2_with fail;go_ret;exact⟨by rw[HF.o];rfl,rfl⟩
  ·have HF:=zh (show Sx.further k i=1 by unfold Sx.further;rw[if_neg (fun h=>hz h.2)]);have b0:((i:Int)==0)=false:=(by rw[yaZ];omega);clear H0 hf hz;by_cases H1:15<=k
   ·have H2:decide (k<=12)=false:=(by rw[yvZ];omega);have h9:(9:Int)<=k:=(by omega);clear hk;go_enter Tryz.func112, Tryz.ntmps112;go_wp2_with fail;go_ret;exact⟨by rw[HF.o];rfl,rfl⟩
   ·have h9:(9:Int)<=k:=(by omega);have H2:k<=12:=(by omega);clear hk H1;go_enter Tryz.func112, Tryz.ntmps112;go_wp2_with fail;go_ret;exact⟨by rw[HF.o];rfl,rfl⟩
 | false=>
  rw[hf]at H0;have hk:¬((9<=k/\k<=12)\/15<=k):=(by simpa using H0.symm);have HF:=zh (show Sx.further k i=1 by unfold Sx.further;rw[hf,if_neg (fun h=>by cases h.1)]);have H1:decide ((15:Int)<=k)=false:=(by rw[yvZ];omega);clear H0 hf;by_cases h9:9<=k
  ·have H2:decide (k<=12)=false:=(by rw[yvZ];omega);clear hk;go_enter Tryz.func112, Tryz.ntmps112;go_wp2_with fail;go_ret;exact⟨by rw[HF.o];rfl,rfl⟩
  ·have H4:decide ((9:Int)<=k)=false:=(by rw[yvZ];omega);clear hk h9;go_enter Tryz.func112, Tryz.ntmps112;go_wp2_with fail;go_ret;exact⟨by rw[HF.o];rfl,rfl⟩
theorem zhlZ (k:Int) (w:World) (h1:1<=k) (h2:k<=21) :
  Calls Tryz.prog 136 #[.int .i64 k] w fun e w'=>e=.returned (.int .i64 (Sx.level k:Nat))/\w=w':=by
 have hk:k=1\/k=2\/k=3\/k=4\/k=5\/k=6\/k=7\/k=8\/k=9\/k=10\/k=11\/k=12\/k=13\/k=14\/k=15\/k=16\/k=17\/k=18\/k=19\/k=20\/k=21:=by omega
 clear h1 h2;rcases hk with rfl | rfl | rfl | rfl | rfl | rfl | rfl | rfl | rfl | rfl | rfl | rfl | rfl | rfl | rfl | rfl | rfl | rfl | rfl | rfl | rfl
 all_goals
  go_enter Tryz.func136, Tryz.ntmps136
  go_wp2
  go_ret;exact⟨rfl,rfl⟩
theorem zprZ (w:World):Calls Tryz.prog 137 #[.int .i64 15] w fun e w'=>e=.returned (.string ⟨(Sx.sign 15).toArray⟩)/\w=w':=by
 have H0:∀w,(Instr.index 190 (.agg #[.string ⟨#[]⟩,.string ⟨#[]⟩,.string ⟨#[]⟩,.string ⟨#[]⟩,.string ⟨#[]⟩,.string ⟨#[]⟩,.string ⟨#[]⟩,.string ⟨#[]⟩,.string ⟨#[]⟩,.string ⟨#[]⟩,.string ⟨#[]⟩,.string ⟨#[]⟩,.string ⟨#[]⟩,.string ⟨#[]⟩,.string ⟨#[]⟩,.string ⟨#[42]⟩,.string ⟨#[43]⟩,.string ⟨#[45]⟩,.string ⟨#[61,61]⟩,.string ⟨#[60]⟩,.string ⟨#[97,110,100]⟩,.string ⟨#[111,114]⟩]) (.int .i64 15)).run Tryz.prog w=.ok (.string ⟨#[42]⟩) w:=fun _=>by kernel_rfl
 go_enter Tryz.func137, Tryz.ntmps137
 go_wp2
 go_ret;exact⟨rfl,rfl⟩
theorem zpsZ (w:World):Calls Tryz.prog 137 #[.int .i64 16] w fun e w'=>e=.returned (.string ⟨(Sx.sign 16).toArray⟩)/\w=w':=by
 have H0:∀w,(Instr.index 190 (.agg #[.string ⟨#[]⟩,.string ⟨#[]⟩,.string ⟨#[]⟩,.string ⟨#[]⟩,.string ⟨#[]⟩,.string ⟨#[]⟩,.string ⟨#[]⟩,.string ⟨#[]⟩,.string ⟨#[]⟩,.string ⟨#[]⟩,.string ⟨#[]⟩,.string ⟨#[]⟩,.string ⟨#[]⟩,.string ⟨#[]⟩,.string ⟨#[]⟩,.string ⟨#[42]⟩,.string ⟨#[43]⟩,.string ⟨#[45]⟩,.string ⟨#[61,61]⟩,.string ⟨#[60]⟩,.string ⟨#[97,110,100]⟩,.string ⟨#[111,114]⟩]) (.int .i64 16)).run Tryz.prog w=.ok (.string ⟨#[43]⟩) w:=fun _=>by kernel_rfl
 go_enter Tryz.func137, Tryz.ntmps137
 go_wp2
 go_ret;exact⟨rfl,rfl⟩
theorem zptZ (w:World):Calls Tryz.prog 137 #[.int .i64 17] w fun e w'=>e=.returned (.string ⟨(Sx.sign 17).toArray⟩)/\w=w':=by
 have H0:∀w,(Instr.index 190 (.agg #[.string ⟨#[]⟩,.string ⟨#[]⟩,.string ⟨#[]⟩,.string ⟨#[]⟩,.string ⟨#[]⟩,.string ⟨#[]⟩,.string ⟨#[]⟩,.string ⟨#[]⟩,.string ⟨#[]⟩,.string ⟨#[]⟩,.string ⟨#[]⟩,.string ⟨#[]⟩,.string ⟨#[]⟩,.string ⟨#[]⟩,.string ⟨#[]⟩,.string ⟨#[42]⟩,.string ⟨#[43]⟩,.string ⟨#[45]⟩,.string ⟨#[61,61]⟩,.string ⟨#[60]⟩,.string ⟨#[97,110,100]⟩,.string ⟨#[111,114]⟩]) (.int .i64 17)).run Tryz.prog w=.ok (.string ⟨#[45]⟩) w:=fun _=>by kernel_rfl
 go_enter Tryz.func137, Tryz.ntmps137
 go_wp2
 go_ret;exact⟨rfl,rfl⟩
theorem zpuZ (w:World):Calls Tryz.prog 137 #[.int .i64 18] w fun e w'=>e=.returned (.string ⟨(Sx.sign 18).toArray⟩)/\w=w':=by
 have H0:∀w,(Instr.index 190 (.agg #[.string ⟨#[]⟩,.string ⟨#[]⟩,.string ⟨#[]⟩,.string ⟨#[]⟩,.string ⟨#[]⟩,.string ⟨#[]⟩,.string ⟨#[]⟩,.string ⟨#[]⟩,.string ⟨#[]⟩,.string ⟨#[]⟩,.string ⟨#[]⟩,.string ⟨#[]⟩,.string ⟨#[]⟩,.string ⟨#[]⟩,.string ⟨#[]⟩,.string ⟨#[42]⟩,.string ⟨#[43]⟩,.string ⟨#[45]⟩,.string ⟨#[61,61]⟩,.string ⟨#[60]⟩,.string ⟨#[97,110,100]⟩,.string ⟨#[111,114]⟩]) (.int .i64 18)).run Tryz.prog w=.ok (.string ⟨#[61,61]⟩) w:=fun _=>by kernel_rfl
 go_enter Tryz.func137, Tryz.ntmps137
 go_wp2
 go_ret;exact⟨rfl,rfl⟩
theorem zpvZ (w:World):Calls Tryz.prog 137 #[.int .i64 19] w fun e w'=>e=.returned (.string ⟨(Sx.sign 19).toArray⟩)/\w=w':=by
 have H0:∀w,(Instr.index 190 (.agg #[.string ⟨#[]⟩,.string ⟨#[]⟩,.string ⟨#[]⟩,.string ⟨#[]⟩,.string ⟨#[]⟩,.string ⟨#[]⟩,.string ⟨#[]⟩,.string ⟨#[]⟩,.string ⟨#[]⟩,.string ⟨#[]⟩,.string ⟨#[]⟩,.string ⟨#[]⟩,.string ⟨#[]⟩,.string ⟨#[]⟩,.string ⟨#[]⟩,.string ⟨#[42]⟩,.string ⟨#[43]⟩,.string ⟨#[45]⟩,.string ⟨#[61,61]⟩,.string ⟨#[60]⟩,.string ⟨#[97,110,100]⟩,.string ⟨#[111,114]⟩]) (.int .i64 19)).run Tryz.prog w=.ok (.string ⟨#[60]⟩) w:=fun _=>by kernel_rfl
 go_enter Tryz.func137, Tryz.ntmps137
 go_wp2
 go_ret;exact⟨rfl,rfl⟩
theorem zpwZ (w:World):Calls Tryz.prog 137 #[.int .i64 20] w fun e w'=>e=.returned (.string ⟨(Sx.sign 20).toArray⟩)/\w=w':=by
 have H0:∀w,(Instr.index 190 (.agg #[.string ⟨#[]⟩,.string ⟨#[]⟩,.string ⟨#[]⟩,.string ⟨#[]⟩,.string ⟨#[]⟩,.string ⟨#[]⟩,.string ⟨#[]⟩,.string ⟨#[]⟩,.string ⟨#[]⟩,.string ⟨#[]⟩,.string ⟨#[]⟩,.string ⟨#[]⟩,.string ⟨#[]⟩,.string ⟨#[]⟩,.string ⟨#[]⟩,.string ⟨#[42]⟩,.string ⟨#[43]⟩,.string ⟨#[45]⟩,.string ⟨#[61,61]⟩,.string ⟨#[60]⟩,.string ⟨#[97,110,100]⟩,.string ⟨#[111,114]⟩]) (.int .i64 20)).run Tryz.prog w=.ok (.string ⟨#[97,110,100]⟩) w:=fun _=>by kernel_rfl
 go_enter Tryz.func137, Tryz.ntmps137
 go_wp2
 go_ret;exact⟨rfl,rfl⟩
theorem zpxZ (w:World):Calls Tryz.prog 137 #[.int .i64 21] w fun e w'=>e=.returned (.string ⟨(Sx.sign 21).toArray⟩)/\w=w':=by
 have H0:∀w,(Instr.index 190 (.agg #[.string ⟨#[]⟩,.string ⟨#[]⟩,.string ⟨#[]⟩,.string ⟨#[]⟩,.string ⟨#[]⟩,.string ⟨#[]⟩,.string ⟨#[]⟩,.string ⟨#[]⟩,.string ⟨#[]⟩,.string ⟨#[]⟩,.string ⟨#[]⟩,.string ⟨#[]⟩,.string ⟨#[]⟩,.string ⟨#[]⟩,.string ⟨#[]⟩,.string ⟨#[42]⟩,.string ⟨#[43]⟩,.string ⟨#[45]⟩,.string ⟨#[61,61]⟩,.string ⟨#[60]⟩,.string ⟨#[97,110,100]⟩,.string ⟨#[111,114]⟩]) (.int .i64 21)).run Tryz.prog w=.ok (.string ⟨#[111,114]⟩) w:=fun _=>by kernel_rfl
 go_enter Tryz.func137, Tryz.ntmps137
 go_wp2
 go_ret;exact⟨rfl,rfl⟩
theorem zniZ (k:Int) (w:World) (h1:15<=k) (h2:k<=21) :
  Calls Tryz.prog 137 #[.int .i64 k] w fun e w'=>e=.returned (.string ⟨(Sx.sign k).toArray⟩)/\w=w':=by
 have hk:k=15\/k=16\/k=17\/k=18\/k=19\/k=20\/k=21:=by omega
 rcases hk with rfl | rfl | rfl | rfl | rfl | rfl | rfl
 ·exact zprZ w
 ·exact zpsZ w
 ·exact zptZ w
 ·exact zpuZ w
 ·exact zpvZ w
 ·exact zpwZ w
 ·exact zpxZ w
def ExprOk (W0:World) (b:Nat) (x:Sx.Ex):Prop:=∀(v:Value) (l:List Lx.Bytes) (w:World),Sx.okX x->IsEx W0 v x->Sx.sizeX x<=1000000->Wrote W0 b l.length l w->l.length+(Sx.expr SY x).length<=900000000->
 Calls Tryz.prog 64 #[.pointer (some ⟨b,0,none⟩),v] w fun e w'=>e=.returned (.tuple #[])/\Wrote W0 b (l++Sx.expr SY x).length (l++Sx.expr SY x) w'/\KeepW w w'
def WithinOk (W0:World) (b:Nat) (x:Sx.Ex):Prop:=∀(v:Value) (l:List Lx.Bytes) (w:World),Sx.okX x->IsEx W0 v x->Sx.sizeX x<=1000000->Wrote W0 b l.length l w->l.length+(Sx.within x).length<=900000000->
 Calls Tryz.prog 118 #[.pointer (some ⟨b,0,none⟩),v] w fun e w'=>e=.returned (.tuple #[])/\Wrote W0 b (l++Sx.within x).length (l++Sx.within x) w'/\KeepW w w'
def PartOk (W0:World) (b:Nat) (x:Sx.Ex) (lv:Nat):Prop:=∀(v:Value) (l:List Lx.Bytes) (w:World),Sx.okX x->IsEx W0 v x->Sx.sizeX x<=1000000->Wrote W0 b l.length l w->l.length+(Sx.part lv x).length<=900000000->
 Calls Tryz.prog 116 #[.pointer (some ⟨b,0,none⟩),v,.int .i64 (lv:Nat)] w fun e w'=>e=.returned (.tuple #[])/\Wrote W0 b (l++Sx.part lv x).length (l++Sx.part lv x) w'/\KeepW w w'
def ListOk (W0:World) (b:Nat) (xs:List Sx.Ex):Prop:=∀(v:Value) (l:List Lx.Bytes) (w:World),(∀x∈xs,Sx.okX x)->ExRow W0 v xs->Sx.sizeXs xs<=1000000->Wrote W0 b l.length l w->l.length+(Sx.listed xs).length<=900000000->
 Calls Tryz.prog 117 #[.pointer (some ⟨b,0,none⟩),v] w fun e w'=>e=.returned (.tuple #[])/\Wrote W0 b (l++Sx.listed xs).length (l++Sx.listed xs) w'/\KeepW w w'
theorem zjtZ {W0:World} {b:Nat} {x:Sx.Ex} (ih:ExprOk W0 b x):WithinOk W0 b x:=by
 intro v l w hr ht hz h hc;have H0:(Sx.within x).length=(Sx.expr SY x).length+2:=by simp[Sx.within]
 obtain⟨m,hm⟩:=zE (Sx.expr SY x);have H8:Sx.within x=[[40]]++m++[[41]]:=by unfold Sx.within;rw[hm]
 rw[hm]at H0;have Hd:l.length+1<=1000000000:=by omega
 have Ha:(l++[[40]]).length+m.length<=900000000:=by simp;omega
 have Hc:(l++[[40]]++m).length+1<=1000000000:=by simp;omega
 have hE:∀w,Wrote W0 b (l++[[40]]).length (l++[[40]]) w->Calls Tryz.prog 64 #[.pointer (some ⟨b,0,none⟩),v] w fun e w'=>e=.returned (.tuple #[])/\Wrote W0 b (l++[[40]]++m).length (l++[[40]]++m) w'/\KeepW w w':=fun w hw=>by
  have:=ih v (l++[[40]]) w hr ht hz hw (by rw[hm];exact Ha)
  rwa [hm]at this
 obtain⟨At,ct,An,cn,Ap,cp,rfl,-⟩:=ht.agg;obtain⟨L,hL⟩:=zE (w.heap.size);obtain⟨w2,hw2⟩:=zE (w.alloc (.cells #[.int .i64 x.pos,.int .i64 x.kind,.int .i64 x.n,.string ⟨x.s.toArray⟩,.slice At x.t.length ct,.slice An x.names.length cn,.slice Ap x.parts.length cp] 39));have H1:=Live.first h #[.int .i64 x.pos,.int .i64 x.kind,.int .i64 x.n,.string ⟨x.s.toArray⟩,.slice At x.t.length ct,.slice An x.names.length cn,.slice Ap x.parts.length cp] 39 hw2;rw[hL]at H1;have H2:=zh H1;clear H1 h;have HE:=zh hE;have Hb:=zh H8;clear hE H8 ih hr hm hc H0 ht hz;go_enter Tryz.func118, Tryz.ntmps118;obtain⟨x0,x1,x2,x3,x4,x5,x6,hl1,hl2,hbl⟩:=H2.o.c7;go_upto_region 2 with(go_at_call 100;refine(H2.o.lput1 [40] ⟨by simp,by simp⟩ Hd).mono ?_;rintro e w3 ⟨rfl,hW3,H6⟩);have H3:=zh (H2.o.go oEx oEx hW3 H6);clear hW3 H6;clear x0 x1 x2 x3 x4 x5 x6 hl1 hl2 hbl;obtain⟨x0,x1,x2,x3,x4,x5,x6,hl1,hl2,hbl⟩:=H3.o.c7;go_upto_region 3 with(go_at_call 64;refine(HE.o w3 H3.o.wr).mono ?_;rintro e w4 ⟨rfl,hW4,H7⟩);have H4:=zh (H3.o.go oEx oEx hW4 H7);clear hW4 H7;clear x0 x1 x2 x3 x4 x5 x6 hl1 hl2 hbl;obtain⟨x0,x1,x2,x3,x4,x5,x6,hl1,hl2,hbl⟩:=H4.o.c7;go_wp2_with (go_at_call 100;refine(H4.o.lput1 [41] ⟨by simp,by simp⟩ Hc).mono ?_;rintro e w5 ⟨rfl,hW5,H9⟩);have H5:=zh (H4.o.go oEx oEx hW5 H9);clear hW5 H9;clear x0 x1 x2 x3 x4 x5 x6 hl1 hl2 hbl;go_end0;refine⟨rfl,?_,H5.o.kp⟩;rw[Hb.o];simpa[yiZ]using H5.o.wr
theorem zbyZ {W0:World} {b:Nat} {x:Sx.Ex} (ih:ExprOk W0 b x) (lv:Nat) (H0:lv<=8) (hk1:1<=x.kind) (hk2:x.kind<=21):PartOk W0 b x lv:=by
 intro v l w hr ht hz h hc;have H4:=zjtZ ih v l;have H5:=ih v l;have hk:=fun w=>zhlZ x.kind w hk1 hk2;obtain⟨k,hke⟩:=zE (Sx.level x.kind);rw[hke]at hk;have Hc:k<=8:=by rw[<-hke];unfold Sx.level;(repeat' split) <;> omega
 have Ha:(0:Int)<=(k:Int):=by omega
 have H9:(0:Int)<=(lv:Int):=by omega
 have hPA:=zh (show Sx.part lv x=if k<lv then Sx.within x else Sx.expr SY x by unfold Sx.part;rw[hke]);have hHT:=zh ht;have HZ:=zh hz;have HC:=zh hc;obtain⟨At,ct,An,cn,Ap,cp,rfl,-⟩:=ht.agg;obtain⟨L,hL⟩:=zE (w.heap.size);obtain⟨w2,hw2⟩:=zE (w.alloc (.cells #[.int .i64 x.pos,.int .i64 x.kind,.int .i64 x.n,.string ⟨x.s.toArray⟩,.slice At x.t.length ct,.slice An x.names.length cn,.slice Ap x.parts.length cp] 39));have H0:=Live.first h #[.int .i64 x.pos,.int .i64 x.kind,.int .i64 x.n,.string ⟨x.s.toArray⟩,.slice At x.t.length ct,.slice An x.names.length cn,.slice Ap x.parts.length cp] 39 hw2;rw[hL]at H0;have H2:=zh H0;clear H0 h;have H6:=zh H4;have H7:=zh H5;have HR:=zh hr;have HK:=zh hk;clear H4 H5 ih hr hc ht hz hke hk hk1 hk2;obtain⟨x0,x1,x2,x3,x4,x5,x6⟩:=zbZ H2.o.b1;obtain⟨hl1,hl2,hbl⟩:=H2.o.lt;by_cases hlt:k<lv
 ·have hi:(k:Int)<(lv:Int):=(by omega);have hP:Sx.part lv x=Sx.within x:=(by rw[hPA.o,if_pos hlt]);have H1:=zh (show l.length+(Sx.within x).length<=900000000 by have:=HC.o;rwa [hP]at this);have HP:=zh hP;clear hlt hP;go_enter Tryz.func116, Tryz.ntmps116;go_wp2_with (first
   | (go_at_call 136;refine(HK.o w2).mono ?_;rintro e w' ⟨rfl,rfl⟩)
   | (go_at_call 118;refine(H6.o w2 HR.o hHT.o HZ.o H2.o.wr H1.o).mono ?_;rintro e w3 ⟨rfl,hW3,H3⟩))
  go_end0
  rw[HP.o];exact⟨rfl,hW3,H2.o.kp.trans H3⟩
 ·have hi:¬(k:Int)<(lv:Int):=(by omega);have Hb:(lv:Int)<=(k:Int):=(by omega);have hP:Sx.part lv x=Sx.expr SY x:=(by rw[hPA.o,if_neg hlt]);have H1:=zh (show l.length+(Sx.expr SY x).length<=900000000 by have:=HC.o;rwa [hP]at this);have HP:=zh hP;clear hlt hP;go_enter Tryz.func116, Tryz.ntmps116;go_wp2_with (first
   | (go_at_call 136;refine(HK.o w2).mono ?_;rintro e w' ⟨rfl,rfl⟩)
   | (go_at_call 64;refine(H7.o w2 HR.o hHT.o HZ.o H2.o.wr H1.o).mono ?_;rintro e w3 ⟨rfl,hW3,H3⟩))
  go_end0
  rw[HP.o];exact⟨rfl,hW3,H2.o.kp.trans H3⟩
theorem Sx.list_append (S:Sx.Says):∀(l m:List Sx.Ex) (i:Nat),Sx.list S i (l++m)=Sx.list S i l++Sx.list S (i+l.length) m
 | [],m,i=>by simp[Sx.list]
 | x::l,m,i=>by rw[yHZ,Sx.list,Sx.list,Sx.list_append S l m (i+1),yhZ,show i+1+l.length=i+(l.length+1)by omega];simp[yiZ]
theorem Sx.list_take {l:List Sx.Ex} {m:Nat} (h:m<l.length):Sx.list SY 0 (l.take (m+1))=Sx.list SY 0 (l.take m)++(if 0<m then [[44]]else [])++Sx.expr SY l[m]:=by
 rw[ykZ h,Sx.list_append,yGZ,yUZ,Nat.min_eq_left (by omega)];simp[Sx.list,yiZ]
theorem Sx.list_le (l:List Sx.Ex) (m:Nat):(Sx.list SY 0 (l.take m)).length<=(Sx.list SY 0 l).length:=by
 conv=>rhs;rw[<-ydbZ m l,Sx.list_append,ycZ]
 omega
theorem znjZ {W0:World} {b:Nat} {xs:List Sx.Ex} (ih:∀x∈xs,ExprOk W0 b x):ListOk W0 b xs:=by
 intro v l w hr ht hz h hc;have H8:(Sx.listed xs).length=(Sx.list SY 0 xs).length+2:=by simp[Sx.listed]
 have Hj:=Sx.length_sizeXs xs;obtain⟨A,c,rfl,hcap,hrow⟩:=ht;have ht:ExRow W0 (.slice A xs.length c) xs:=⟨A,c,rfl,hcap,hrow⟩;obtain⟨k,hk⟩:=zE (xs.length);rw[hk]at ht ⊢;have J1:(k:Int)<=1000000:=by omega
 have J2:(0:Int)<=(k:Int):=by omega
 have Hy:l.length+1<=1000000000:=by omega
 obtain⟨lf,hlf⟩:=zE ((Sx.list SY 0 xs).length);have J3:l.length+lf+2<=900000000:=by omega
 have Hu:=h.lt;have HX:=zh h;have HK:=zh hk;have HP:=zh ht;have HR:=zh hr;have HZ:=zh hz;have Hk:=zh ih;have Hg:=zh hlf;clear h hr ht hz hc H8 hk ih Hj hcap hrow hlf;go_enter Tryz.func117, Tryz.ntmps117;go_upto_region 1 with(go_at_call 100;refine(put1 (s:=[40]) HX.o ⟨by simp,by simp⟩ Hy).mono ?_;rintro e w3 ⟨rfl,hW3,Hc⟩)
 have Hv:=zh Hc;have H3:=zh hW3.tight;have Hr:=hW3.lt;clear hW3 Hc;go_wp2_with fail;go_loopg [13] k (fun i v wr=>∃(m:Nat),i=k-m/\v=.int .i64 (m:Int)/\m<=k/\Wrote W0 b (l++[[40]]++Sx.list SY 0 (xs.take m)).length (l++[[40]]++Sx.list SY 0 (xs.take m)) wr/\KeepW w3 wr)
 case atStart=>exact⟨0,rfl,rfl,yxZ _,by simpa[Sx.list]using H3.o,KeepW.refl _⟩
 case round=>
  obtain⟨m,hi,rfl,hm,hW,hkw⟩:=hrel;have Hn:=Sx.list_le xs m;have HI:=zh hi;have m0:(0:Int)<=(m:Int):=(by omega);have Hs:=hW.lt;have J0:=zh (Hv.o.trans hkw);have H9:=zh hkw;rw[Hg.o]at Hn;by_cases hlt:m<k
  ·have Hp:(m:Int)<(k:Int):=(by omega);have H7:m<xs.length:=(by have:=HK.o;omega);have H0:=Sx.list_le xs (m+1);have Hf:=zh hW;clear hi hW hkw;obtain⟨g,off,At,ct,An,cn,Aq,cq,rfl,hty,hc7⟩:=HP.o.spot m H7;obtain⟨x,hxe⟩:=zE (xs[m]'H7);have H1:x∈xs:=(by rw[<-hxe];exact yfZ H7);have H2:=Sx.list_take H7;rw[hxe]at hc7 hty H2;obtain⟨hg,c0,c1,c2,c3,c4,c5,c6⟩:=hc7 wr Hf.o.below;have Ht:=Sx.sizeX_mem H1;have He:Sx.sizeX x<=1000000:=(by have:=HZ.o;omega);obtain⟨q,hq⟩:=zE (Sx.expr SY x);rw[hq]at H2;rw[H2,Hg.o]at H0;obtain⟨lm,hlm⟩:=zE (Sx.list SY 0 (xs.take m));rw[hlm]at H2 H0;have Hx:=zh (show Wrote W0 b (l++[[40]]++lm).length (l++[[40]]++lm) wr by rw[<-hlm];exact Hf.o);obtain⟨cm,hcm⟩:∃cm:List Lx.Bytes,(if 0<m then [[44]]else [])=cm:=⟨_,rfl⟩;have Hw:cm.length<=1:=(by rw[<-hcm];split <;> simp);rw[hcm]at H2 H0;simp only[ycZ]at H0;have Hh:(l++[[40]]++lm).length+1<=1000000000:=(by simp;omega);have Hz:(l++[[40]]++lm++cm).length+q.length<=900000000:=(by simp;omega);have hE:=zh (show ∀u w,IsEx W0 u x->Wrote W0 b (l++[[40]]++lm++cm).length (l++[[40]]++lm++cm) w->Calls Tryz.prog 64 #[.pointer (some ⟨b,0,none⟩),u] w fun e w'=>e=.returned (.tuple #[])/\Wrote W0 b (l++[[40]]++lm++cm++q).length (l++[[40]]++lm++cm++q) w'/\KeepW w w' from fun u w hu hw=>by
    have:=Hk.o x H1 u (l++[[40]]++lm++cm) w (HR.o x H1) hu He hw (by rw[hq];exact Hz)
    rwa [hq]at this)
   have hCm:=zh (show ∀w,Wrote W0 b (l++[[40]]++lm).length (l++[[40]]++lm) w->Calls Tryz.prog 131 #[.pointer (some ⟨b,0,none⟩),.int .i64 (m:Int)] w fun e w'=>e=.returned (.tuple #[])/\Wrote W0 b ((l++[[40]]++lm).length+1) (l++[[40]]++lm++cm) w'/\KeepW w w' from fun w hw=>by
    have:=zezZ m hw (by omega) Hh
    rwa [hcm]at this)
   obtain⟨L,hL⟩:=zE (wr.heap.size);obtain⟨w4,hw4⟩:=zE (wr.alloc (.cells #[.int .i64 x.pos,.int .i64 x.kind,.int .i64 x.n,.string ⟨x.s.toArray⟩,.slice At x.t.length ct,.slice An x.names.length cn,.slice Aq x.parts.length cq] 39));have Ha:=Live.first Hx.o #[.int .i64 x.pos,.int .i64 x.kind,.int .i64 x.n,.string ⟨x.s.toArray⟩,.slice At x.t.length ct,.slice An x.names.length cn,.slice Aq x.parts.length cq] 39 hw4;rw[hL]at Ha;have H4:=zh Ha;have Hi:=zh hty;have Hl:=zh H2;clear Ha hty H2 hcm hlm hq H1 hxe hc7 Ht He;obtain⟨x0,x1,x2,x3,x4,x5,x6,hl1,hl2,hbl⟩:=H4.o.c7;go_upto_region 5 with(go_at_call 131;refine(hCm.o w4 H4.o.wr).mono ?_;rintro e w5 ⟨rfl,hW5,Hb⟩);have H5:=zh (H4.o.go oEx oEx hW5 Hb);clear hW5 Hb;clear x0 x1 x2 x3 x4 x5 x6 hl1 hl2 hbl;obtain⟨x0,x1,x2,x3,x4,x5,x6,hl1,hl2,hbl⟩:=H5.o.c7;go_wp2_with (go_at_call 64;refine(hE.o _ w5 Hi.o H5.o.wr).mono ?_;rintro e w6 ⟨rfl,hW6,Hd⟩);have H6:=zh (H5.o.go oEx oEx hW6 Hd);clear hW6 Hd;clear x0 x1 x2 x3 x4 x5 x6 hl1 hl2 hbl;go_roundg (k-(m+1))
   case measure=>have:=HI.o;omega
   case rel=>refine⟨m+1,rfl,by simp,hlt,?_,H9.o.trans H6.o.kp⟩;rw[Hl.o];simpa[yiZ]using H6.o.wr
  ·have Hp:¬(m:Int)<(k:Int):=(by omega);have Ho:(l++[[40]]++Sx.list SY 0 (xs.take m)).length+1<=1000000000:=(by simp;omega);have HW:=zh hW;have Hm:=zh (yjZ (show xs.length<=m by have:=HK.o;omega));clear hi hW hkw;go_wp2_with (go_at_call 100;refine(put1 (s:=[41]) HW.o ⟨by simp,by simp⟩ Ho).mono ?_;rintro e w7 ⟨rfl,hW7,Hq⟩);go_end0;refine⟨rfl,?_,J0.o.trans Hq⟩;unfold Sx.listed;have h8:=hW7.tight;rw[Hm.o]at h8;simpa[yiZ]using h8
end Go.Proofs.YtdncljdfmdgdaaaGreatDoor
