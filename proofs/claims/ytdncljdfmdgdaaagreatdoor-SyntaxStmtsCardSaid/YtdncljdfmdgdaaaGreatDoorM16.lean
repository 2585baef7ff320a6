/-
  The walks of level and sign.
-/
import Derived.Test.YtdncljdfmdgdaaaGreatDoorM15
set_option linter.unusedSimpArgs false
set_option linter.unusedVariables false
set_option maxRecDepth 100000
set_option maxHeartbeats 8000000
namespace Go.Proofs.YtdncljdfmdgdaaaGreatDoor
open Go.RowKit Go.Shelf Go.WideMaps
theorem zhlZ (k:Int) (w:World) (h1:1<=k) (h2:k<=21) :
  Calls Tryz.prog 136 #[.int .i64 k] w fun e w'=>e=.returned (.int .i64 (Sx.level k:Nat))/\w=w':=by
 have hk:k=1\/k=2\/k=3\/k=4\/k=5\/k=6\/k=7\/k=8\/k=9\/k=10\/k=11\/k=12\/k=13\/k=14\/k=15\/k=16\/k=17\/k=18\/k=19\/k=20\/k=21:=by omega
 clear h1 h2;rcases hk with rfl | rfl | rfl | rfl | rfl | rfl | rfl | rfl | rfl | rfl | rfl | rfl | rfl | rfl | rfl | rfl | rfl | rfl | rfl | rfl | rfl
 all_goals
  go_enter Tryz.func136, Tryz.ntmps136
  go_wp2
  go_ret;exact⟨rfl,rfl⟩
theorem zprZ (w:World):Calls Tryz.prog 137 #[.int .i64 15] w fun e w'=>e=.returned (.string ⟨(Sx.sign 15).toArray⟩)/\w=w':=by
 have H0:∀w,(Instr.index 190 (.agg #[.string ⟨#[]⟩,.string ⟨#[]⟩,.string ⟨#[]⟩,.string ⟨#[]⟩,.string ⟨#[]⟩,.string ⟨#[]⟩,.string ⟨#[]⟩,.string ⟨#[]⟩,.string ⟨#[]⟩,.string ⟨#[]⟩,.string ⟨#[]⟩,.string ⟨#[]⟩,.string ⟨#[]⟩,.string ⟨#[]⟩,.string ⟨#[]⟩,.string ⟨#[42]⟩,.string ⟨#[43]⟩,.string ⟨#[45]⟩,.string ⟨#[61,61]⟩,.string ⟨#[60]⟩,.string ⟨#[97,110,100]⟩,.string ⟨#[111,114]⟩]) (.int .i64 15)).run Tryz.prog w=.ok (.string ⟨#[42]⟩) w:=fun _=>by kernel_rfl
 go_enter Tryz.func137, Tryz.ntmps137
 go_wp2
 go_ret;exact⟨rfl,rfl⟩
theorem zpsZ (w:World):Calls Tryz.prog 137 #[.int .i64 16] w fun e w'=>e=.returned (.string ⟨(Sx.sign 16).toArray⟩)/\w=w':=by
 have H0:∀w,(Instr.index 190 (.agg #[.string ⟨#[]⟩,.string ⟨#[]⟩,.string ⟨#[]⟩,.string ⟨#[]⟩,.string ⟨#[]⟩,.string ⟨#[]⟩,.string ⟨#[]⟩,.string ⟨#[]⟩,.string ⟨#[]⟩,.string ⟨#[]⟩,.string ⟨#[]⟩,.string ⟨#[]⟩,.string ⟨#[]⟩,.string ⟨#[]⟩,.string ⟨#[]⟩,.string ⟨#[42]⟩,.string ⟨#[43]⟩,.string ⟨#[45]⟩,.string ⟨#[61,61]⟩,.string ⟨#[60]⟩,.string ⟨#[97,110,100]⟩,.string ⟨#[111,114]⟩]) (.int .i64 16)).run Tryz.prog w=.ok (.string ⟨#[43]⟩) w:=fun _=>by kernel_rfl
 go_enter Tryz.func137, Tryz.ntmps137
 go_wp2
 go_ret;exact⟨rfl,rfl⟩
theorem zptZ (w:World):Calls Tryz.prog 137 #[.int .i64 17] w fun e w'=>e=.returned (.string ⟨(Sx.sign 17).toArray⟩)/\w=w':=by
 have H0:∀w,(Instr.index 190 (.agg #[.string ⟨#[]⟩,.string ⟨#[]⟩,.string ⟨#[]⟩,.string ⟨#[]⟩,.string ⟨#[]⟩,.string ⟨#[]⟩,.string ⟨#[]⟩,.string ⟨#[]⟩,.string ⟨#[]⟩,.string ⟨#[]⟩,.string ⟨#[]⟩,.string ⟨#[]⟩,.string ⟨#[]⟩,.string ⟨#[]⟩,.string ⟨#[]⟩,.string ⟨#[42]⟩,.string ⟨#[43]⟩,.string ⟨#[45]⟩,.string ⟨#[61,61]⟩,.string ⟨#[60]⟩,.string ⟨#[97,110,100]⟩,.string ⟨#[111,114]⟩]) (.int .i64 17)).run Tryz.prog w=.ok (.string ⟨#[45]⟩) w:=fun _=>by kernel_rfl
 go_enter Tryz.func137, Tryz.ntmps137
 go_wp2
 go_ret;exact⟨rfl,rfl⟩
theorem zpuZ (w:World):Calls Tryz.prog 137 #[.int .i64 18] w fun e w'=>e=.returned (.string ⟨(Sx.sign 18).toArray⟩)/\w=w':=by
 have H0:∀w,(Instr.index 190 (.agg #[.string ⟨#[]⟩,.string ⟨#[]⟩,.string ⟨#[]⟩,.string ⟨#[]⟩,.string ⟨#[]⟩,.string ⟨#[]⟩,.string ⟨#[]⟩,.string ⟨#[]⟩,.string ⟨#[]⟩,.string ⟨#[]⟩,.string ⟨#[]⟩,.string ⟨#[]⟩,.string ⟨#[]⟩,.string ⟨#[]⟩,.string ⟨#[]⟩,.string ⟨#[42]⟩,.string ⟨#[43]⟩,.string ⟨#[45]⟩,.string ⟨#[61,61]⟩,.string ⟨#[60]⟩,.string ⟨#[97,110,100]⟩,.string ⟨#[111,114]⟩]) (.int .i64 18)).run Tryz.prog w=.ok (.string ⟨#[61,61]⟩) w:=fun _=>by kernel_rfl
 go_enter Tryz.func137, Tryz.ntmps137
 go_wp2
 go_ret;exact⟨rfl,rfl⟩
theorem zpvZ (w:World):Calls Tryz.prog 137 #[.int .i64 19] w fun e w'=>e=.returned (.string ⟨(Sx.sign 19).toArray⟩)/\w=w':=by
 have H0:∀w,(Instr.index 190 (.agg #[.string ⟨#[]⟩,.string ⟨#[]⟩,.string ⟨#[]⟩,.string ⟨#[]⟩,.string ⟨#[]⟩,.string ⟨#[]⟩,.string ⟨#[]⟩,.string ⟨#[]⟩,.string ⟨#[]⟩,.string ⟨#[]⟩,.string ⟨#[]⟩,.string ⟨#[]⟩,.string ⟨#[]⟩,.string ⟨#[]⟩,.string ⟨#[]⟩,.string ⟨#[42]⟩,.string ⟨#[43]⟩,.string ⟨#[45]⟩,.string ⟨#[61,61]⟩,.string ⟨#[60]⟩,.string ⟨#[97,110,100]⟩,.string ⟨#[111,114]⟩]) (.int .i64 19)).run Tryz.prog w=.ok (.string ⟨#[60]⟩) w:=fun _=>by kernel_rfl
 go_enter Tryz.func137, Tryz.ntmps137
 go_wp2
 go_ret;exact⟨rfl,rfl⟩
theorem zpwZ (w:World):Calls Tryz.prog 137 #[.int .i64 20] w fun e w'=>e=.returned (.string ⟨(Sx.sign 20).toArray⟩)/\w=w':=by
 have H0:∀w,(Instr.index 190 (.agg #[.string ⟨#[]⟩,.string ⟨#[]⟩,.string ⟨#[]⟩,.string ⟨#[]⟩,.string ⟨#[]⟩,.string ⟨#[]⟩,.string ⟨#[]⟩,.string ⟨#[]⟩,.string ⟨#[]⟩,.string ⟨#[]⟩,.string ⟨#[]⟩,.string ⟨#[]⟩,.string ⟨#[]⟩,.string ⟨#[]⟩,.string ⟨#[]⟩,.string ⟨#[42]⟩,.string ⟨#[43]⟩,.string ⟨#[45]⟩,.string ⟨#[61,61]⟩,.string ⟨#[60]⟩,.string ⟨#[97,110,100]⟩,.string ⟨#[111,114]⟩]) (.int .i64 20)).run Tryz.prog w=.ok (.string ⟨#[97,110,100]⟩) w:=fun _=>by kernel_rfl
 go_enter Tryz.func137, Tryz.ntmps137
 go_wp2
 go_ret;exact⟨rfl,rfl⟩
theorem zpxZ (w:World):Calls Tryz.prog 137 #[.int .i64 21] w fun e w'=>e=.returned (.string ⟨(Sx.sign 21).toArray⟩)/\w=w':=by
 have H0:∀w,(Instr.index 190 (.agg #[.string ⟨#[]⟩,.string ⟨#[]⟩,.string ⟨#[]⟩,.string ⟨#[]⟩,.string ⟨#[]⟩,.string ⟨#[]⟩,.string ⟨#[]⟩,.string ⟨#[]⟩,.string ⟨#[]⟩,.string ⟨#[]⟩,.string ⟨#[]⟩,.string ⟨#[]⟩,.string ⟨#[]⟩,.string ⟨#[]⟩,.string ⟨#[]⟩,.string ⟨#[42]⟩,.string ⟨#[43]⟩,.string ⟨#[45]⟩,.string ⟨#[61,61]⟩,.string ⟨#[60]⟩,.string ⟨#[97,110,100]⟩,.string ⟨#[111,114]⟩]) (.int .i64 21)).run Tryz.prog w=.ok (.string ⟨#[111,114]⟩) w:=fun _=>by kernel_rfl
 go_enter Tryz.func137, Tryz.ntmps137
 go_wp2
 go_ret;exact⟨rfl,rfl⟩
theorem zniZ (k:Int) (w:World) (h1:15<=k) (h2:k<=21) :
  Calls Tryz.prog 137 #[.int .i64 k] w fun e w'=>e=.returned (.string ⟨(Sx.sign k).toArray⟩)/\w=w':=by
 have hk:k=15\/k=16\/k=17\/k=18\/k=19\/k=20\/k=21:=by omega
 rcases hk with rfl | rfl | rfl | rfl | rfl | rfl | rfl
 ·exact zprZ w
 ·exact zpsZ w
 ·exact zptZ w
 ·exact zpuZ w
 ·exact zpvZ w
 ·exact zpwZ w
 ·exact zpxZ w
def ExprOk (W0:World) (b:Nat) (x:Sx.Ex):Prop:=∀(v:Value) (l:List Lx.Bytes) (w:World),Sx.okX x->IsEx W0 v x->Sx.sizeX x<=1000000->Wrote W0 b l.length l w->l.length+(Sx.expr SY x).length<=900000000->
 Calls Tryz.prog 64 #[.pointer (some ⟨b,0,none⟩),v] w fun e w'=>e=.returned (.tuple #[])/\Wrote W0 b (l++Sx.expr SY x).length (l++Sx.expr SY x) w'/\KeepW w w'
def WithinOk (W0:World) (b:Nat) (x:Sx.Ex):Prop:=∀(v:Value) (l:List Lx.Bytes) (w:World),Sx.okX x->IsEx W0 v x->Sx.sizeX x<=1000000->Wrote W0 b l.length l w->l.length+(Sx.within x).length<=900000000->
 Calls Tryz.prog 118 #[.pointer (some ⟨b,0,none⟩),v] w fun e w'=>e=.returned (.tuple #[])/\Wrote W0 b (l++Sx.within x).length (l++Sx.within x) w'/\KeepW w w'
def PartOk (W0:World) (b:Nat) (x:Sx.Ex) (lv:Nat):Prop:=∀(v:Value) (l:List Lx.Bytes) (w:World),Sx.okX x->IsEx W0 v x->Sx.sizeX x<=1000000->Wrote W0 b l.length l w->l.length+(Sx.part lv x).length<=900000000->
 Calls Tryz.prog 116 #[.pointer (some ⟨b,0,none⟩),v,.int .i64 (lv:Nat)] w fun e w'=>e=.returned (.tuple #[])/\Wrote W0 b (l++Sx.part lv x).length (l++Sx.part lv x) w'/\KeepW w w'
def ListOk (W0:World) (b:Nat) (xs:List Sx.Ex):Prop:=∀(v:Value) (l:List Lx.Bytes) (w:World),(∀x∈xs,Sx.okX x)->ExRow W0 v xs->Sx.sizeXs xs<=1000000->Wrote W0 b l.length l w->l.length+(Sx.listed xs).length<=900000000->
 Calls Tryz.prog 117 #[.pointer (some ⟨b,0,none⟩),v] w fun e w'=>e=.returned (.tuple #[])/\Wrote W0 b (l++Sx.listed xs).length (l++Sx.listed xs) w'/\KeepW w w'
theorem zjtZ {W0:World} {b:Nat} {x:Sx.Ex} (ih:ExprOk W0 b x):WithinOk W0 b x:=by
 intro v l w hr ht hz h hc;have H0:(Sx.within x).length=(Sx.expr SY x).length+2:=by simp[Sx.within]
 obtain⟨m,hm⟩:=zE (Sx.expr SY x);have H9:Sx.within x=[[40]]++m++[[41]]:=by unfold Sx.within;rw[hm]
 rw[hm]at H0;have Hb:l.length+1<=1000000000:=by omega
 have Hc:(l++[[40]]).length+m.length<=900000000:=by simp;omega
 have Ha:(l++[[40]]++m).length+1<=1000000000:=by simp;omega
 have hE:∀w,Wrote W0 b (l++[[40]]).length (l++[[40]]) w->Calls Tryz.prog 64 #[.pointer (some ⟨b,0,none⟩),v] w fun e w'=>e=.returned (.tuple #[])/\Wrote W0 b (l++[[40]]++m).length (l++[[40]]++m) w'/\KeepW w w':=fun w hw=>by
  have:=ih v (l++[[40]]) w hr ht hz hw (by rw[hm];exact Hc)
  rwa [hm]at this
 obtain⟨At,ct,An,cn,Ap,cp,rfl,-⟩:=ht.agg;obtain⟨L,hL⟩:=zE (w.heap.size);obtain⟨w2,hw2⟩:=zE (w.alloc (.cells #[.int .i64 x.pos,.int .i64 x.kind,.int .i64 x.n,.string ⟨x.s.toArray⟩,.slice At x.t.length ct,.slice An x.names.length cn,.slice Ap x.parts.length cp] 39));have H1:=Live.first h #[.int .i64 x.pos,.int .i64 x.kind,.int .i64 x.n,.string ⟨x.s.toArray⟩,.slice At x.t.length ct,.slice An x.names.length cn,.slice Ap x.parts.length cp] 39 hw2;rw[hL]at H1;have H2:=zh H1;clear H1 h;have HE:=zh hE;have Hd:=zh H9;clear hE H9 ih hr hm hc H0 ht hz;go_enter Tryz.func118, Tryz.ntmps118;obtain⟨x0,x1,x2,x3,x4,x5,x6,hl1,hl2,hbl⟩:=H2.o.c7;go_upto_region 2 with(go_at_call 100;refine(H2.o.lput1 [40] ⟨by simp,by simp⟩ Hb).mono ?_;rintro e w3 ⟨rfl,hW3,H8⟩);have H3:=zh (H2.o.go oEx oEx hW3 H8);clear hW3 H8;clear x0 x1 x2 x3 x4 x5 x6 hl1 hl2 hbl;obtain⟨x0,x1,x2,x3,x4,x5,x6,hl1,hl2,hbl⟩:=H3.o.c7;go_upto_region 3 with(go_at_call 64;refine(HE.o w3 H3.o.wr).mono ?_;rintro e w4 ⟨rfl,hW4,H6⟩);have H4:=zh (H3.o.go oEx oEx hW4 H6);clear hW4 H6;clear x0 x1 x2 x3 x4 x5 x6 hl1 hl2 hbl;obtain⟨x0,x1,x2,x3,x4,x5,x6,hl1,hl2,hbl⟩:=H4.o.c7;go_wp2_with (go_at_call 100;refine(H4.o.lput1 [41] ⟨by simp,by simp⟩ Ha).mono ?_;rintro e w5 ⟨rfl,hW5,H7⟩);have H5:=zh (H4.o.go oEx oEx hW5 H7);clear hW5 H7;clear x0 x1 x2 x3 x4 x5 x6 hl1 hl2 hbl;go_end0;refine⟨rfl,?_,H5.o.kp⟩;rw[Hd.o];simpa[yiZ]using H5.o.wr
theorem zbyZ {W0:World} {b:Nat} {x:Sx.Ex} (ih:ExprOk W0 b x) (lv:Nat) (H0:lv<=8) (hk1:1<=x.kind) (hk2:x.kind<=21):PartOk W0 b x lv:=by
 intro v l w hr ht hz h hc;have H4:=zjtZ ih v l;have H5:=ih v l;have hk:=fun w=>zhlZ x.kind w hk1 hk2;obtain⟨k,hke⟩:=zE (Sx.level x.kind);rw[hke]at hk;have H8:k<=8:=by rw[<-hke];unfold Sx.level;(repeat' split) <;> omega
 have Ha:(0:Int)<=(k:Int):=by omega
 have Hc:(0:Int)<=(lv:Int):=by omega
 have hPA:=zh (show Sx.part lv x=if k<lv then Sx.within x else Sx.expr SY x by unfold Sx.part;rw[hke]);have hHT:=zh ht;have HZ:=zh hz;have HC:=zh hc;obtain⟨At,ct,An,cn,Ap,cp,rfl,-⟩:=ht.agg;obtain⟨L,hL⟩:=zE (w.heap.size);obtain⟨w2,hw2⟩:=zE (w.alloc (.cells #[.int .i64 x.pos,.int .i64 x.kind,.int .i64 x.n,.string ⟨x.s.toArray⟩,.slice At x.t.length ct,.slice An x.names.length cn,.slice Ap x.parts.length cp] 39));have H0:=Live.first h #[.int .i64 x.pos,.int .i64 x.kind,.int .i64 x.n,.string ⟨x.s.toArray⟩,.slice At x.t.length ct,.slice An x.names.length cn,.slice Ap x.parts.length cp] 39 hw2;rw[hL]at H0;have H2:=zh H0;clear H0 h;have H7:=zh H4;have H6:=zh H5;have HR:=zh hr;have HK:=zh hk;clear H4 H5 ih hr hc ht hz hke hk hk1 hk2;obtain⟨x0,x1,x2,x3,x4,x5,x6⟩:=zbZ H2.o.b1;obtain⟨hl1,hl2,hbl⟩:=H2.o.lt;by_cases hlt:k<lv
 ·have hi:(k:Int)<(lv:Int):=(by omega);have hP:Sx.part lv x=Sx.within x:=(by rw[hPA.o,if_pos hlt]);have H1:=zh (show l.length+(Sx.within x).length<=900000000 by have:=HC.o;rwa [hP]at this);have HP:=zh hP;clear hlt hP;go_enter Tryz.func116, Tryz.ntmps116
  go_wp2_with (first
   | (go_at_call 136;refine(HK.o w2).mono ?_;rintro e w' ⟨rfl,rfl⟩)
   | (go_at_call 118;refine(H7.o w2 HR.o hHT.o HZ.o H2.o.wr H1.o).mono ?_;rintro e w3 ⟨rfl,hW3,H3⟩))
  go_end0
  rw[HP.o];exact⟨rfl,hW3,H2.o.kp.trans H3⟩
 ·have hi:¬(k:Int)<(lv:Int):=(by omega);have Hb:(lv:Int)<=(k:Int):=(by omega);have hP:Sx.part lv x=Sx.expr SY x:=(by rw[hPA.o,if_neg hlt]);have H1:=zh (show l.length+(Sx.expr SY x).length<=900000000 by have:=HC.o;rwa [hP]at this);have HP:=zh hP;clear hlt hP;go_enter Tryz.func116, Tryz.ntmps116
  go_wp2_with (first
   | (go_at_call 136;refine(HK.o w2).mono ?_;rintro e w' ⟨rfl,rfl⟩)
   | (go_at_call 64;refine(H6.o w2 HR.o hHT.o HZ.o H2.o.wr H1.o).mono ?_;rintro e w3 ⟨rfl,hW3,H3⟩))
  go_end0
  rw[HP.o];exact⟨rfl,hW3,H2.o.kp.trans H3⟩
theorem Sx.list_append (S:Sx.Says):∀(l m:List Sx.Ex) (i:Nat),Sx.list S i (l++m)=Sx.list S i l++Sx.list S (i+l.length) m
 | [],m,i=>by simp[Sx.list]
 | x::l,m,i=>by rw[yHZ,Sx.list,Sx.list,Sx.list_append S l m (i+1),yhZ,show i+1+l.length=i+(l.length+1)by omega];simp[yiZ]
theorem Sx.list_take {l:List Sx.Ex} {m:Nat} (h:m<l.length):Sx.list SY 0 (l.take (m+1))=Sx.list SY 0 (l.take m)++(if 0<m then [[44]]else [])++Sx.expr SY l[m]:=by
 rw[ykZ h,Sx.list_append,yGZ,yUZ,Nat.min_eq_left (by omega)];simp[Sx.list,yiZ]
theorem Sx.list_le (l:List Sx.Ex) (m:Nat):(Sx.list SY 0 (l.take m)).length<=(Sx.list SY 0 l).length:=by
 conv=>rhs;rw[<-ydbZ m l,Sx.list_append,ycZ]
 omega
theorem znjZ {W0:World} {b:Nat} {xs:List Sx.Ex} (ih:∀x∈xs,ExprOk W0 b x):ListOk W0 b xs:=by
 intro v l w hr ht hz h hc;have H8:(Sx.listed xs).length=(Sx.list SY 0 xs).length+2:=by simp[Sx.listed]
 have Hr:=Sx.length_sizeXs xs;obtain⟨A,c,rfl,hcap,hrow⟩:=ht;have ht:ExRow W0 (.slice A xs.length c) xs:=⟨A,c,rfl,hcap,hrow⟩;obtain⟨k,hk⟩:=zE (xs.length);rw[hk]at ht ⊢;have J1:(k:Int)<=1000000:=by omega
 have J3:(0:Int)<=(k:Int):=by omega
 have Ht:l.length+1<=1000000000:=by omega
 obtain⟨lf,hlf⟩:=zE ((Sx.list SY 0 xs).length);have J2:l.length+lf+2<=900000000:=by omega
 have Hx:=h.lt;have HX:=zh h;have HK:=zh hk;have HP:=zh ht;have HR:=zh hr;have HZ:=zh hz;have Hu:=zh ih;have He:=zh hlf;clear h hr ht hz hc H8 hk ih Hr hcap hrow hlf;go_enter Tryz.func117, Tryz.ntmps117;go_upto_region 1 with(go_at_call 100;refine(put1 (s:=[40]) HX.o ⟨by simp,by simp⟩ Ht).mono ?_;rintro e w3 ⟨rfl,hW3,Hg⟩)
 have Hl:=zh Hg;have H3:=zh hW3.tight;have J0:=hW3.lt;clear hW3 Hg;go_wp2_with fail;go_loopg [13] k (fun i v wr=>∃(m:Nat),i=k-m/\v=.int .i64 (m:Int)/\m<=k/\Wrote W0 b (l++[[40]]++Sx.list SY 0 (xs.take m)).length (l++[[40]]++Sx.list SY 0 (xs.take m)) wr/\KeepW w3 wr)
 case atStart=>exact⟨0,rfl,rfl,yxZ _,by simpa[Sx.list]using H3.o,KeepW.refl _⟩
 case round=>
  obtain⟨m,hi,rfl,hm,hW,hkw⟩:=hrel;have Hw:=Sx.list_le xs m;have HI:=zh hi;have m0:(0:Int)<=(m:Int):=(by omega);have Hj:=hW.lt;have Hs:=zh (Hl.o.trans hkw);have Ha:=zh hkw;rw[He.o]at Hw;by_cases hlt:m<k
  ·have Hm:(m:Int)<(k:Int):=(by omega);have H7:m<xs.length:=(by have:=HK.o;omega);have H0:=Sx.list_le xs (m+1);have Hd:=zh hW;clear hi hW hkw;obtain⟨g,off,At,ct,An,cn,Aq,cq,rfl,hty,hc7⟩:=HP.o.spot m H7;obtain⟨x,hxe⟩:=zE (xs[m]'H7);have H1:x∈xs:=(by rw[<-hxe];exact yfZ H7);have H2:=Sx.list_take H7;rw[hxe]at hc7 hty H2;obtain⟨hg,c0,c1,c2,c3,c4,c5,c6⟩:=hc7 wr Hd.o.below;have Hy:=Sx.sizeX_mem H1;have Hf:Sx.sizeX x<=1000000:=(by have:=HZ.o;omega);obtain⟨q,hq⟩:=zE (Sx.expr SY x);rw[hq]at H2;rw[H2,He.o]at H0;obtain⟨lm,hlm⟩:=zE (Sx.list SY 0 (xs.take m));rw[hlm]at H2 H0;have Hz:=zh (show Wrote W0 b (l++[[40]]++lm).length (l++[[40]]++lm) wr by rw[<-hlm];exact Hd.o);obtain⟨cm,hcm⟩:∃cm:List Lx.Bytes,(if 0<m then [[44]]else [])=cm:=⟨_,rfl⟩;have Hh:cm.length<=1:=(by rw[<-hcm];split <;> simp);rw[hcm]at H2 H0;simp only[ycZ]at H0;have Hv:(l++[[40]]++lm).length+1<=1000000000:=(by simp;omega);have Hq:(l++[[40]]++lm++cm).length+q.length<=900000000:=by simp;omega
   have hE:=zh (show ∀u w,IsEx W0 u x->Wrote W0 b (l++[[40]]++lm++cm).length (l++[[40]]++lm++cm) w->Calls Tryz.prog 64 #[.pointer (some ⟨b,0,none⟩),u] w fun e w'=>e=.returned (.tuple #[])/\Wrote W0 b (l++[[40]]++lm++cm++q).length (l++[[40]]++lm++cm++q) w'/\KeepW w w' from fun u w hu hw=>by
    have:=Hu.o x H1 u (l++[[40]]++lm++cm) w (HR.o x H1) hu Hf hw (by rw[hq];exact Hq)
    rwa [hq]at this)
   have hCm:=zh (show ∀w,Wrote W0 b (l++[[40]]++lm).length (l++[[40]]++lm) w->Calls Tryz.prog 131 #[.pointer (some ⟨b,0,none⟩),.int .i64 (m:Int)] w fun e w'=>e=.returned (.tuple #[])/\Wrote W0 b ((l++[[40]]++lm).length+1) (l++[[40]]++lm++cm) w'/\KeepW w w' from fun w hw=>by
    have:=zezZ m hw (by omega) Hv
    rwa [hcm]at this)
   obtain⟨L,hL⟩:=zE (wr.heap.size);obtain⟨w4,hw4⟩:=zE (wr.alloc (.cells #[.int .i64 x.pos,.int .i64 x.kind,.int .i64 x.n,.string ⟨x.s.toArray⟩,.slice At x.t.length ct,.slice An x.names.length cn,.slice Aq x.parts.length cq] 39));have H9:=Live.first Hz.o #[.int .i64 x.pos,.int .i64 x.kind,.int .i64 x.n,.string ⟨x.s.toArray⟩,.slice At x.t.length ct,.slice An x.names.length cn,.slice Aq x.parts.length cq] 39 hw4;rw[hL]at H9;have H4:=zh H9;have Hk:=zh hty;have Ho:=zh H2;clear H9 hty H2 hcm hlm hq H1 hxe hc7 Hy Hf;obtain⟨x0,x1,x2,x3,x4,x5,x6,hl1,hl2,hbl⟩:=H4.o.c7;go_upto_region 5 with(go_at_call 131;refine(hCm.o w4 H4.o.wr).mono ?_;rintro e w5 ⟨rfl,hW5,Hb⟩);have H5:=zh (H4.o.go oEx oEx hW5 Hb);clear hW5 Hb;clear x0 x1 x2 x3 x4 x5 x6 hl1 hl2 hbl;obtain⟨x0,x1,x2,x3,x4,x5,x6,hl1,hl2,hbl⟩:=H5.o.c7;go_wp2_with (go_at_call 64;refine(hE.o _ w5 Hk.o H5.o.wr).mono ?_;rintro e w6 ⟨rfl,hW6,Hc⟩);have H6:=zh (H5.o.go oEx oEx hW6 Hc);clear hW6 Hc;clear x0 x1 x2 x3 x4 x5 x6 hl1 hl2 hbl;go_roundg (k-(m+1))
   case measure=>have:=HI.o;omega
   case rel=>refine⟨m+1,rfl,by simp,hlt,?_,Ha.o.trans H6.o.kp⟩;rw[Ho.o];simpa[yiZ]using H6.o.wr
  ·have Hm:¬(m:Int)<(k:Int):=(by omega);have Hi:(l++[[40]]++Sx.list SY 0 (xs.take m)).length+1<=1000000000:=(by simp;omega);have HW:=zh hW;have Hp:=zh (yjZ (show xs.length<=m by have:=HK.o;omega));clear hi hW hkw;go_wp2_with (go_at_call 100;refine(put1 (s:=[41]) HW.o ⟨by simp,by simp⟩ Hi).mono ?_;rintro e w7 ⟨rfl,hW7,Hn⟩);go_end0;refine⟨rfl,?_,Hs.o.trans Hn⟩;unfold Sx.listed;have h8:=hW7.tight;rw[Hp.o]at h8;simpa[yiZ]using h8
end Go.Proofs.YtdncljdfmdgdaaaGreatDoor
