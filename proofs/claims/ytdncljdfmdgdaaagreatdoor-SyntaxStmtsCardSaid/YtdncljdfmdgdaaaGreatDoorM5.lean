/-
  The walk of (*cutter).token.
-/
import Derived.Test.YtdncljdfmdgdaaaGreatDoorM4
set_option linter.unusedSimpArgs false
set_option linter.unusedVariables false
set_option maxRecDepth 100000
set_option maxHeartbeats 8000000
namespace Go.Proofs.YtdncljdfmdgdaaaGreatDoor
open Go.RowKit
section
variable {w w':World} {b k n:Nat} {s:ByteArray} {p:Int} {r:Lx.Res} {t:Lx.Tok} {e:Ending}
theorem ResIs.ok' (hr:r=.ok t n) (h:ResIs p b s k w r e w'):e=.returned (.tuple #[.agg #[.int .i64 t.pos,.int .i64 t.kind,.string ⟨t.s.toArray⟩,.int .i64 t.n],.pointer none])/\w.grownBy w' (some b)/\Cu w' b s (k+n):=by
 subst hr;exact⟨h.2.1,h.1,h.2.2⟩
theorem ResIs.bad' {y x:Nat} (hr:r=.bad y x) (h:ResIs p b s k w r e w') :
  ∃g j,e=.returned (.tuple #[.agg #[.int .i64 p,.int .i64 0,.string ⟨#[]⟩,.int .i64 0],.pointer (some ⟨g,0,none⟩)])/\w.grownBy w' (some b)/\IsRef w' g x y/\w.heap.size<=g/\Cu w' b s j:=by
 subst hr;obtain⟨hg,g,j,h1,h2,h3,h4⟩:=h;exact⟨g,j,h1,hg,h2,h3,h4⟩
theorem zjaZ {wq:World} {g g2 j y x:Nat} (hr:r=.bad y x) (hg:w.grownBy wq (some b)) (hC:Cu wq b s j) (hbg:b<g) (hwg:w.heap.size<=g) (hR:IsRef wq g2 x y) (h2:g<g2) (c0 c1 c2 c3:Value) :
  ResIs p b s k w r (.returned (.tuple #[.agg #[.int .i64 p,.int .i64 0,.string ⟨#[]⟩,.int .i64 0],.pointer (some ⟨g2,0,none⟩)]))
   ((((wq.setCell ⟨g,0,none⟩ c0).setCell ⟨g,1,none⟩ c1).setCell ⟨g,2,none⟩ c2).setCell ⟨g,3,none⟩ c3):=by
 subst hr;refine⟨zbgZ hg ((((ziZ _ _ _ _).trans (ziZ _ _ _ _)).trans (ziZ _ _ _ _)).trans (ziZ _ _ _ _)) hwg,g2,j,rfl,?_,by omega,?_⟩
 ·have H0:g2≠g:=(by omega);exact(yuZ _ ⟨g,3,none⟩ _ g2 H0).trans ((yuZ _ ⟨g,2,none⟩ _ g2 H0).trans ((yuZ _ ⟨g,1,none⟩ _ g2 H0).trans ((yuZ _ ⟨g,0,none⟩ _ g2 H0).trans hR)))
 ·exact((((hC.far (by omega) _ _).far (by omega) _ _).far (by omega) _ _).far (by omega) _ _)
end
section
variable {s:ByteArray} {k:Nat} (hk:k<s.size)
theorem zrwZ (h:Lx.letter (s[k]'hk)=true):Lx.cut k (s.data.toList.drop k)=Lx.cutName k (s.data.toList.drop k):=by
 rw[zkZ s k hk];simp[Lx.cut,h]
theorem znzZ (h:Lx.letter (s[k]'hk)=false) (h1:Lx.digit (s[k]'hk)=true):Lx.cut k (s.data.toList.drop k)=Lx.cutNumber k (s.data.toList.drop k):=by
 rw[zkZ s k hk];simp[Lx.cut,h,h1]
theorem zrxZ (h:Lx.letter (s[k]'hk)=false) (h1:Lx.digit (s[k]'hk)=false) (h2:(s[k]'hk).toNat=34):Lx.cut k (s.data.toList.drop k)=Lx.quoted k (s.data.toList.drop (k+1)) [] 1:=by
 rw[zkZ s k hk];simp[Lx.cut,h,h1,h2]
theorem zryZ (h:Lx.letter (s[k]'hk)=false) (h1:Lx.digit (s[k]'hk)=false) (h2:(s[k]'hk).toNat=61) (hk2:k+1<s.size) (h3:(s[k+1]'hk2).toNat=61):Lx.cut k (s.data.toList.drop k)=.ok ⟨k,6,[61,61],0⟩ 2:=by
 have e:s[k+1]'hk2=61:=(u8_eq _ 61 (by decide)).1 h3;rw[zkZ s k hk,zkZ s (k+1) hk2];simp[Lx.cut,h,h1,h2,e]
theorem zumZ (h:Lx.letter (s[k]'hk)=false) (h1:Lx.digit (s[k]'hk)=false) (h2:(s[k]'hk).toNat≠34) (h3:(s[k]'hk).toNat=61->∀hk2:k+1<s.size,(s[k+1]'hk2).toNat≠61):Lx.cut k (s.data.toList.drop k)=.ok ⟨k,6,[s[k]'hk],0⟩ 1:=by
 rw[zkZ s k hk];have e:((s[k]'hk).toNat==61&&(s.data.toList.drop (k+1)).head? ==some 61)=false:=by
  rw[Bool.and_eq_false_iff];by_cases hq:(s[k]'hk).toNat=61
  ·right;by_cases hk2:k+1<s.size
   ·rw[zkZ s (k+1) hk2];have:=h3 hq hk2;have e:¬s[k+1]'hk2=61:=fun he=>this (by rw[he];rfl);simpa using e
   ·rw[yNZ (by rw[zhZ];omega)];rfl
  ·left;simpa using hq
 show(if Lx.letter (s[k]'hk)then _ else if Lx.digit (s[k]'hk)then _ else if(s[k]'hk).toNat==34 then _ else if((s[k]'hk).toNat==61&&(s.data.toList.drop (k+1)).head? ==some 61)then _ else _)=_;rw[e,h,h1];simp[h2]
end
theorem zoaZ {c:UInt8} (h:Lx.begins c=true) (h0:Lx.letter c=false) (h1:Lx.digit c=false) (h2:¬c.toNat=34):c.toNat<128:=by
 simp only[Lx.begins,h0,h1,Bool.false_or,yKZ,ytZ]at h;rcases h with h | h
 ·exact absurd h h2
 ·have:=ySZ.1 h;have H0:∀x∈Lx.signs,x.toNat<128:=(by decide);exact H0 _ this
theorem zlbZ (c:UInt8) (h:c.toNat<128):Utf8.encode (c.toNat:Int)=⟨#[c]⟩:=by
 have hv:Utf8.valid (c.toNat:Int)=true:=by simp[Utf8.valid];omega
 unfold Utf8.encode;simp[hv,h]
theorem zlcZ (s:ByteArray) (b k:Nat) (w:World) (hc:Cu w b s k) (hk:k<s.size) (hs:s.size<=140737488351232) (hG:GS w) (hb:NG<=b) (hbeg:Lx.begins (s[k]'hk)=true) :
  Calls Tryz.prog 127 #[.pointer (some ⟨b,0,none⟩)] w
   (ResIs k b s k w (Lx.cut k (s.data.toList.drop k))):=by
 have Hs:=zh hc;have H5:=hc.lt;have hi:(k:Int)<(s.size:Int):=by omega
 have J3:(0:Int)<=(k:Int):=by omega
 have hCb:=hc.alloc (.cells #[.int .i64 0,.int .i64 0,.string ⟨#[]⟩,.int .i64 0] 133);have c0:=hCb.c0;have c1:=hCb.c1;have cf1:=hCb.f1;clear hc hCb;have k1:(k:Int)<=140737488351232:=by omega
 go_enter Tryz.func127, Tryz.ntmps127
 go_wp2
 go_quiet (fail)
 obtain⟨w3,hw3⟩:=zE ((w.alloc (.cells #[.int .i64 0,.int .i64 0,.string ⟨#[]⟩,.int .i64 0] 133)).drewN nq);have Hl:w3.heap[w.heap.size]? =some (.cells #[.int .i64 0,.int .i64 0,.string ⟨#[]⟩,.int .i64 0] 133 (0,0)):=by rw[<-hw3];exact ydZ w _
 have Hn:w.grownBy w3 (some b):=by rw[<-hw3];exact(yeZ _ _ _).trans (zjZ _ _ _)
 have hC3:Cu w3 b s k:=by rw[<-hw3];exact(Hs.o.alloc _).drewN _
 have Hw:w3.heap.size=w.heap.size+1:=by rw[<-hw3];simp
 rw[hw3];clear c0 c1 cf1 hw3;have c0:=hC3.c0;have c1:=hC3.c1;have cf1:=hC3.f1;go_upto_region 3 with fail
 clear c0 c1 cf1;have He:w.grownBy (w3.alloc (.cells #[.int .i64 k,.int .i64 0,.string ⟨#[]⟩,.int .i64 0] 133)) (some b):=Hn.trans (yeZ _ _ _);have hC4:=hC3.alloc (.cells #[.int .i64 k,.int .i64 0,.string ⟨#[]⟩,.int .i64 0] 133);have Hg:=heap_alloc Hl (.cells #[.int .i64 k,.int .i64 0,.string ⟨#[]⟩,.int .i64 0] 133);have Ha:=ydZ w3 (.cells #[.int .i64 k,.int .i64 0,.string ⟨#[]⟩,.int .i64 0] 133);have J0:w.heap.size+2<=(w3.alloc (.cells #[.int .i64 k,.int .i64 0,.string ⟨#[]⟩,.int .i64 0] 133)).heap.size:=by simp;omega
 obtain⟨w4,hw4⟩:=zE (w3.alloc (.cells #[.int .i64 k,.int .i64 0,.string ⟨#[]⟩,.int .i64 0] 133));rw[hw4]at He hC4 Hg Ha J0 ⊢;rw[Hw]at Ha;have H9:w.heap.size<w4.heap.size:=by omega
 have Hx:w.heap.size+1<w4.heap.size:=by omega
 have Hv:b<w4.heap.size:=by omega
 have H6:=zh He;have H7:=zh hC4;have H8:=zh Hg;have hG4:GS w4:=hG.grown He hb;clear hw4 Hl Hn hC3;obtain⟨t0,t1,t2,t3⟩:=zgZ Ha;obtain⟨tf0,tf1,tf2,tf3⟩:=zqZ Ha;have Ht:=zh Ha;clear He hC4 Hg Ha;by_cases hL:Lx.letter (s[k]'hk)=true
 ·
  have HX:=zh (zrwZ hk hL)
  cases hr:Lx.cutName k (s.data.toList.drop k)with
  | ok t n=>have HR:=zh hr;clear hr;go_wp2_with (first | (go_at_call 142;refine(zbnZ _ _).mono ?_;rintro e w' ⟨rfl,rfl⟩) | (go_at_call 145;refine(zneZ s b k w4 H7.o hk hs hG4 hb hL).mono ?_;intro e w5 H0;obtain⟨rfl,H1,hC5⟩:=ResIs.ok' HR.o H0;clear H0;have H2:=(H1.block _ H9 (by simp;omega)).trans H8.o;obtain⟨z0,z1,z2,z3⟩:=zgZ H2;obtain⟨zf0,zf1,zf2,zf3⟩:=zqZ H2));refine ylZ (v:=.tuple #[.agg #[.int .i64 t.pos,.int .i64 t.kind,.string ⟨t.s.toArray⟩,.int .i64 t.n],.pointer none]) (by simp[results, Tryz.results127,go_sem,z0,z1,z2,z3,zf0,zf1,zf2,zf3]) rfl ?_;exact resOk (wq:=w5) (g:=w.heap.size) (m:=k+n) (t:=t) (n:=n) (p:=(k:Int)) (a0:=t.pos) (a1:=t.kind) (a2:=⟨t.s.toArray⟩) (a3:=t.n) (HX.o.trans HR.o) rfl rfl rfl (by rfl) rfl (H6.o.trans H1) hC5 H5 (ybZ _) _ _ _ _
  | bad y x=>have HR:=zh hr;clear hr;go_wp2_with (first | (go_at_call 142;refine(zbnZ _ _).mono ?_;rintro e w' ⟨rfl,rfl⟩) | (go_at_call 145;refine(zneZ s b k w4 H7.o hk hs hG4 hb hL).mono ?_;intro e w5 H0;obtain⟨g,j,rfl,H1,hR5,hgl,hC5⟩:=ResIs.bad' HR.o H0;clear H0;have H2:=(H1.block _ H9 (by simp;omega)).trans H8.o;obtain⟨z0,z1,z2,z3⟩:=zgZ H2;obtain⟨zf0,zf1,zf2,zf3⟩:=zqZ H2));refine ylZ (v:=.tuple #[.agg #[.int .i64 k,.int .i64 0,.string ⟨#[]⟩,.int .i64 0],.pointer (some ⟨g,0,none⟩)]) (by simp[results, Tryz.results127,go_sem,z0,z1,z2,z3,zf0,zf1,zf2,zf3]) rfl ?_;exact zjaZ (wq:=w5) (g:=w.heap.size) (g2:=g) (j:=j) (y:=y) (x:=x) (p:=(k:Int)) (HX.o.trans HR.o) (H6.o.trans H1) hC5 H5 (ybZ _) hR5 (by omega) _ _ _ _
 ·have hL0:Lx.letter (s[k]'hk)=false:=(by simpa using hL);clear hL;by_cases hD:Lx.digit (s[k]'hk)=true
  ·
   have HX:=zh (znzZ hk hL0 hD)
   cases hr:Lx.cutNumber k (s.data.toList.drop k)with
   | ok t n=>have HR:=zh hr;clear hr;go_wp2_with (first | (go_at_call 142;refine(zbnZ _ _).mono ?_;rintro e w' ⟨rfl,rfl⟩) | (go_at_call 143;refine(zcaZ _ _).mono ?_;rintro e w' ⟨rfl,rfl⟩) | (go_at_call 146;refine(zjoZ s b k w4 H7.o hk hs hG4 hb hD).mono ?_;intro e w5 H0;obtain⟨rfl,H1,hC5⟩:=ResIs.ok' HR.o H0;clear H0;have H2:=(H1.block _ H9 (by simp;omega)).trans H8.o;obtain⟨z0,z1,z2,z3⟩:=zgZ H2;obtain⟨zf0,zf1,zf2,zf3⟩:=zqZ H2));refine ylZ (v:=.tuple #[.agg #[.int .i64 t.pos,.int .i64 t.kind,.string ⟨t.s.toArray⟩,.int .i64 t.n],.pointer none]) (by simp[results, Tryz.results127,go_sem,z0,z1,z2,z3,zf0,zf1,zf2,zf3]) rfl ?_;exact resOk (wq:=w5) (g:=w.heap.size) (m:=k+n) (t:=t) (n:=n) (p:=(k:Int)) (a0:=t.pos) (a1:=t.kind) (a2:=⟨t.s.toArray⟩) (a3:=t.n) (HX.o.trans HR.o) rfl rfl rfl (by rfl) rfl (H6.o.trans H1) hC5 H5 (ybZ _) _ _ _ _
   | bad y x=>have HR:=zh hr;clear hr;go_wp2_with (first | (go_at_call 142;refine(zbnZ _ _).mono ?_;rintro e w' ⟨rfl,rfl⟩) | (go_at_call 143;refine(zcaZ _ _).mono ?_;rintro e w' ⟨rfl,rfl⟩) | (go_at_call 146;refine(zjoZ s b k w4 H7.o hk hs hG4 hb hD).mono ?_;intro e w5 H0;obtain⟨g,j,rfl,H1,hR5,hgl,hC5⟩:=ResIs.bad' HR.o H0;clear H0;have H2:=(H1.block _ H9 (by simp;omega)).trans H8.o;obtain⟨z0,z1,z2,z3⟩:=zgZ H2;obtain⟨zf0,zf1,zf2,zf3⟩:=zqZ H2));refine ylZ (v:=.tuple #[.agg #[.int .i64 k,.int .i64 0,.string ⟨#[]⟩,.int .i64 0],.pointer (some ⟨g,0,none⟩)]) (by simp[results, Tryz.results127,go_sem,z0,z1,z2,z3,zf0,zf1,zf2,zf3]) rfl ?_;exact zjaZ (wq:=w5) (g:=w.heap.size) (g2:=g) (j:=j) (y:=y) (x:=x) (p:=(k:Int)) (HX.o.trans HR.o) (H6.o.trans H1) hC5 H5 (ybZ _) hR5 (by omega) _ _ _ _
  ·have hD0:Lx.digit (s[k]'hk)=false:=(by simpa using hD);clear hD;by_cases h34:(s[k]'hk).toNat=34
   ·have B34:(((s[k]'hk).toNat:Int)==34)=true:=(by simp;omega);have Hh:=zh h34;clear h34;have HX:=zh (zrxZ hk hL0 hD0 Hh.o)
    cases hr:Lx.quoted k (s.data.toList.drop (k+1)) [] 1 with
    | ok t n=>have HR:=zh hr;clear hr;go_wp2_with (first | (go_at_call 142;refine(zbnZ _ _).mono ?_;rintro e w' ⟨rfl,rfl⟩) | (go_at_call 143;refine(zcaZ _ _).mono ?_;rintro e w' ⟨rfl,rfl⟩) | (go_at_call 147;refine(znfZ s b k w4 H7.o hk hs hG4 hb).mono ?_;intro e w5 H0;obtain⟨rfl,H1,hC5⟩:=ResIs.ok' HR.o H0;clear H0;have H2:=(H1.block _ H9 (by simp;omega)).trans H8.o;obtain⟨z0,z1,z2,z3⟩:=zgZ H2;obtain⟨zf0,zf1,zf2,zf3⟩:=zqZ H2));refine ylZ (v:=.tuple #[.agg #[.int .i64 t.pos,.int .i64 t.kind,.string ⟨t.s.toArray⟩,.int .i64 t.n],.pointer none]) (by simp[results, Tryz.results127,go_sem,z0,z1,z2,z3,zf0,zf1,zf2,zf3]) rfl ?_;exact resOk (wq:=w5) (g:=w.heap.size) (m:=k+n) (t:=t) (n:=n) (p:=(k:Int)) (a0:=t.pos) (a1:=t.kind) (a2:=⟨t.s.toArray⟩) (a3:=t.n) (HX.o.trans HR.o) rfl rfl rfl (by rfl) rfl (H6.o.trans H1) hC5 H5 (ybZ _) _ _ _ _
    | bad y x=>have HR:=zh hr;clear hr;go_wp2_with (first | (go_at_call 142;refine(zbnZ _ _).mono ?_;rintro e w' ⟨rfl,rfl⟩) | (go_at_call 143;refine(zcaZ _ _).mono ?_;rintro e w' ⟨rfl,rfl⟩) | (go_at_call 147;refine(znfZ s b k w4 H7.o hk hs hG4 hb).mono ?_;intro e w5 H0;obtain⟨g,j,rfl,H1,hR5,hgl,hC5⟩:=ResIs.bad' HR.o H0;clear H0;have H2:=(H1.block _ H9 (by simp;omega)).trans H8.o;obtain⟨z0,z1,z2,z3⟩:=zgZ H2;obtain⟨zf0,zf1,zf2,zf3⟩:=zqZ H2));refine ylZ (v:=.tuple #[.agg #[.int .i64 k,.int .i64 0,.string ⟨#[]⟩,.int .i64 0],.pointer (some ⟨g,0,none⟩)]) (by simp[results, Tryz.results127,go_sem,z0,z1,z2,z3,zf0,zf1,zf2,zf3]) rfl ?_;exact zjaZ (wq:=w5) (g:=w.heap.size) (g2:=g) (j:=j) (y:=y) (x:=x) (p:=(k:Int)) (HX.o.trans HR.o) (H6.o.trans H1) hC5 H5 (ybZ _) hR5 (by omega) _ _ _ _
   ·have B34:(((s[k]'hk).toNat:Int)==34)=false:=(by simp;omega);have Hi:=zoaZ hbeg hL0 hD0 h34;have HE:=zh (zlbZ _ Hi);have hu:((s[k]'hk).toNat:Int)<256:=(by omega);go_upto_region 9 with(first | (go_at_call 142;refine(zbnZ _ _).mono ?_;rintro e w' ⟨rfl,rfl⟩) | (go_at_call 143;refine(zcaZ _ _).mono ?_;rintro e w' ⟨rfl,rfl⟩))
    go_upto_region 10 with fail
    rw[HE.o];have H1:w.grownBy ((w4.setCell ⟨w.heap.size+1,1,none⟩ (.int .i64 6)).setCell ⟨w.heap.size+1,2,none⟩ (.string ⟨#[s[k]'hk]⟩)) (some b):=zbgZ H6.o ((ziZ _ _ _ _).trans (ziZ _ _ _ _)) (by omega);have hC5:Cu ((w4.setCell ⟨w.heap.size+1,1,none⟩ (.int .i64 6)).setCell ⟨w.heap.size+1,2,none⟩ (.string ⟨#[s[k]'hk]⟩)) b s k:=(H7.o.far (by omega) _ _).far (by omega) _ _;have H2:((w4.setCell ⟨w.heap.size+1,1,none⟩ (.int .i64 6)).setCell ⟨w.heap.size+1,2,none⟩ (.string ⟨#[s[k]'hk]⟩)).heap[w.heap.size]? =_:=(yuZ _ ⟨w.heap.size+1,2,none⟩ _ _ (by simp)).trans ((yuZ _ ⟨w.heap.size+1,1,none⟩ _ _ (by simp)).trans H8.o);have Hf:((w4.setCell ⟨w.heap.size+1,1,none⟩ (.int .i64 6)).setCell ⟨w.heap.size+1,2,none⟩ (.string ⟨#[s[k]'hk]⟩)).heap[w.heap.size+1]? =some (.cells #[.int .i64 k,.int .i64 6,.string ⟨#[s[k]'hk]⟩,.int .i64 0] 133 (0,0)):=(by simp[World.setCell,Array.getElem?_modify,Ht.o]);obtain⟨w5,hw5⟩:=zE ((w4.setCell ⟨w.heap.size+1,1,none⟩ (.int .i64 6)).setCell ⟨w.heap.size+1,2,none⟩ (.string ⟨#[s[k]'hk]⟩));rw[hw5]at H1 hC5 H2 Hf ⊢;clear hw5 t0 t1 t2 t3 tf0 tf1 tf2 tf3;have c1:=hC5.c1;have cf1:=hC5.f1;go_upto_region 11 with fail;have Hk:w.grownBy (w5.setCell ⟨b,1,none⟩ (.int .i64 (k+1))) (some b):=H1.trans (ziZ _ _ _ _);have hC6:=hC5.set (k+1) (k+1) (by omega);have Hc:=(yuZ w5 ⟨b,1,none⟩ (.int .i64 (k+1)) w.heap.size (by simp;omega)).trans H2;have Hb:=(yuZ w5 ⟨b,1,none⟩ (.int .i64 (k+1)) (w.heap.size+1) (by simp;omega)).trans Hf;obtain⟨w6,hw6⟩:=zE (w5.setCell ⟨b,1,none⟩ (.int .i64 (k+1)));rw[hw6]at Hk hC6 Hc Hb ⊢;clear hw6 c1 cf1 H1 hC5 H2 Hf;have c0:=hC6.c0;have c1:=hC6.c1;have cf1:=hC6.f1;have Hm:=zh Hk;have Ho:=zh hC6;obtain⟨t0,t1,t2,t3⟩:=zgZ Hb;obtain⟨tf0,tf1,tf2,tf3⟩:=zqZ Hb;obtain⟨z0,z1,z2,z3⟩:=zgZ Hc;obtain⟨zf0,zf1,zf2,zf3⟩:=zqZ Hc;clear Hk hC6 Hc Hb;have Hh:=zh h34;clear h34;have H3:∀(nq:Nat),(((s[k]'hk).toNat:Int)==61)=false\/¬k+1<s.size\/(∃H4:k+1<s.size,(((s[k+1]'H4).toNat:Int)==61)=false)->
      ResIs k b s k w (Lx.cut k (s.data.toList.drop k)) (.returned (.tuple #[.agg #[.int .i64 k,.int .i64 6,.string ⟨#[s[k]'hk]⟩,.int .i64 0],.pointer none]))
       (((((w6.drewN nq).setCell ⟨w.heap.size,0,none⟩ (.int .i64 k)).setCell ⟨w.heap.size,1,none⟩ (.int .i64 6)).setCell ⟨w.heap.size,2,none⟩ (.string ⟨#[s[k]'hk]⟩)).setCell ⟨w.heap.size,3,none⟩ (.int .i64 0)):=by
     intro nq Hy;refine resOk (wq:=w6.drewN nq) (g:=w.heap.size) (m:=k+1) (t:=⟨k,6,[s[k]'hk],0⟩) (n:=1) (p:=(k:Int)) (a0:=k) (a1:=6) (a2:=⟨#[s[k]'hk]⟩) (a3:=0)
      (zumZ hk hL0 hD0 Hh.o ?_) rfl rfl rfl (by rfl) rfl (Hm.o.trans (zjZ _ _ _)) (Ho.o.drewN _) H5 (ybZ _) _ _ _ _
     intro Hd H4 h2;rcases Hy with h | h | ⟨_,h⟩
     ·rw[Hd]at h;exact absurd h (by decide)
     ·exact h H4
     ·rw[h2]at h;exact absurd h (by decide)
    by_cases Hd:(s[k]'hk).toNat=61
    ·have B61:(((s[k]'hk).toNat:Int)==61)=true:=(by simp;omega);have Hu:=zh Hd;clear Hd;by_cases H4:k+1<s.size
     ·have Hz:(k:Int)+1<(s.size:Int):=(by omega);have Hq:(0:Int)<=(k:Int)+1:=(by omega);by_cases hn61:(s[k+1]'H4).toNat=61
      ·have N61:(((s[k+1]'H4).toNat:Int)==61)=true:=(by simp;omega);have Hj:=zh hn61;clear hn61;go_quiet (fail);go_wp2;clear H3;refine ylZ (v:=.tuple #[.agg #[.int .i64 k,.int .i64 6,.string ⟨#[61,61]⟩,.int .i64 0],.pointer none]) (by simp[results, Tryz.results127,go_sem,z0,z1,z2,z3,zf0,zf1,zf2,zf3]) rfl ?_;have Hr:w.grownBy ((w6.drewN nq).setCell ⟨w.heap.size+1,2,none⟩ (.string ⟨#[61,61]⟩)) (some b):=zbgZ Hm.o ((zjZ w6 nq (some (w.heap.size+1))).trans (ziZ _ _ _ _)) (by omega);have Hp:w.grownBy (((w6.drewN nq).setCell ⟨w.heap.size+1,2,none⟩ (.string ⟨#[61,61]⟩)).setCell ⟨b,1,none⟩ (.int .i64 ((k:Int)+1+1))) (some b):=Hr.trans (ziZ _ _ _ _);have hC8:Cu (((w6.drewN nq).setCell ⟨w.heap.size+1,2,none⟩ (.string ⟨#[61,61]⟩)).setCell ⟨b,1,none⟩ (.int .i64 ((k:Int)+1+1))) b s (k+2):=((Ho.o.drewN nq).far (by omega) _ _).set _ _ (by omega);generalize ((w6.drewN nq).setCell ⟨w.heap.size+1,2,none⟩ (.string ⟨#[61,61]⟩)).setCell ⟨b,1,none⟩ (.int .i64 ((k:Int)+1+1))=w8 at Hp hC8 ⊢;exact resOk (wq:=w8) (g:=w.heap.size) (m:=k+2) (t:=⟨k,6,[61,61],0⟩) (n:=2) (p:=(k:Int)) (a0:=k) (a1:=6) (a2:=⟨#[61,61]⟩) (a3:=0)
        (zryZ hk hL0 hD0 Hu.o H4 Hj.o) rfl rfl rfl (by rfl) rfl Hp hC8 H5 (ybZ _) _ _ _ _
      ·have N61:(((s[k+1]'H4).toNat:Int)==61)=false:=(by simp;omega);clear hn61;go_quiet (fail);have hE:=H3 nq (.inr (.inr ⟨H4,N61⟩));clear H3;go_wp2;refine ylZ (v:=.tuple #[.agg #[.int .i64 k,.int .i64 6,.string ⟨#[s[k]'hk]⟩,.int .i64 0],.pointer none]) (by simp[results, Tryz.results127,go_sem,z0,z1,z2,z3,zf0,zf1,zf2,zf3]) rfl ?_;exact hE
     ·have Hz:¬(k:Int)+1<(s.size:Int):=(by omega);go_quiet (fail);have hE:=H3 nq (.inr (.inl H4));clear H3;go_wp2;refine ylZ (v:=.tuple #[.agg #[.int .i64 k,.int .i64 6,.string ⟨#[s[k]'hk]⟩,.int .i64 0],.pointer none]) (by simp[results, Tryz.results127,go_sem,z0,z1,z2,z3,zf0,zf1,zf2,zf3]) rfl ?_;exact hE
    ·have B61:(((s[k]'hk).toNat:Int)==61)=false:=(by simp;omega);clear Hd;go_quiet (fail);have hE:=H3 nq (.inl B61);clear H3;go_wp2;refine ylZ (v:=.tuple #[.agg #[.int .i64 k,.int .i64 6,.string ⟨#[s[k]'hk]⟩,.int .i64 0],.pointer none]) (by simp[results, Tryz.results127,go_sem,z0,z1,z2,z3,zf0,zf1,zf2,zf3]) rfl ?_;exact hE
namespace Lx
theorem skip_suffix:∀(m:Bool) (l:Bytes),∃j,j<=l.length/\skip m l=l.drop j
 | _,[]=>⟨0,ybZ _,by simp[skip_end]⟩
 | false,c::t=>by
  unfold skip;split
  ·obtain⟨j,hj,e⟩:=skip_suffix false t;exact⟨j+1,by simp;omega,by simpa using e⟩
  ·split
   ·obtain⟨j,hj,e⟩:=skip_suffix true t;exact⟨j+1,by simp;omega,by simpa using e⟩
   ·exact⟨0,yxZ _,rfl⟩
 | true,c::t=>by
  unfold skip;split
  ·obtain⟨j,hj,e⟩:=skip_suffix false t;exact⟨j+1,by simp;omega,by simpa using e⟩
  ·obtain⟨j,hj,e⟩:=skip_suffix true t;exact⟨j+1,by simp;omega,by simpa using e⟩
theorem zdnZ (p:Nat) (t:Tok) (n:Nat):∀(m:Nat) (l acc:Bytes) (k:Nat),l.length<=m->quoted p l acc k=.ok t n->k<n/\n<=k+l.length
 | m,[],acc,k,hm,h=>by simp[quoted]at h
 | m+1,c::t',acc,k,hm,h=>by
  have H0:t'.length<=m:=(by simpa using hm);by_cases e34:c=34
  ·subst e34;simp[quoted]at h;have:=h.2;simp;omega
  ·by_cases e92:c=92
   ·subst e92
    cases t' with
    | nil=>simp[quoted]at h
    | cons d t''=>
     have H1:t''.length<=m:=(by simp at H0;omega);have h':(if d.toNat==110 then quoted p t'' (acc++[10]) (k+2)else if d.toNat==34||d.toNat==92 then quoted p t'' (acc++[d]) (k+2)else .bad 12 (p+k+1))=.ok t n:=h;split at h'
     ·have:=zdnZ p t n m t'' _ _ H1 h';simp;omega
     ·split at h'
      ·have:=zdnZ p t n m t'' _ _ H1 h';simp;omega
      ·cases h'
   ·have h':(if c.toNat<32||126<c.toNat then Res.bad 12 (p+k)else quoted p t' (acc++[c]) (k+1))=.ok t n:=by
     rw[quoted.eq_def]at h;split at h
     ·cases ‹_::_=[]›
     ·rename_i h1;injection h1 with h1 h2;exact absurd h1 e34
     ·rename_i h1;injection h1 with h1 h2;exact absurd h1 e92
     ·rename_i h1;injection h1 with h1 h2;exact absurd h1 e92
     ·rename_i h1;injection h1 with h1 h2;subst h1;subst h2;exact h
    split at h'
    ·cases h'
    ·have:=zdnZ p t n m t' _ _ H0 h';simp;omega
 | 0,c::t',acc,k,hm,h=>by simp at hm
theorem zfnZ {l:Bytes} (f:UInt8->Bool):(l.takeWhile f).length<=l.length:=(List.takeWhile_sublist f).length_le
theorem cut_len {p:Nat} {l:Bytes} {t:Tok} {n:Nat} (h:cut p l=.ok t n):0<n/\n<=l.length:=by
 cases l with
 | nil=>simp[cut]at h
 | cons b l=>
  simp only[cut]at h;split at h
  ·rename_i hb;unfold cutName at h;simp only at h;split at h
   ·cases h
   ·injection h with h1 h2;subst h2;refine⟨?_,zfnZ _⟩;rw[yFZ,if_pos (by simp[within,hb])];simp
  ·split at h
   ·rename_i hb;unfold cutNumber at h;simp only at h;split at h
    ·cases h
    ·injection h with h1 h2;subst h2;refine⟨?_,zfnZ _⟩;rw[yFZ,if_pos hb];simp
   ·split at h
    ·have:=zdnZ p t n _ l [] 1 (ybZ _) h;simp;omega
    ·split at h
     ·rename_i h2;injection h with h1 h2';subst h2';simp at h2
      cases l with
      | nil=>simp at h2
      | cons d l=>simp
     ·injection h with h1 h2;subst h2;simp
end Lx
section
variable {s:ByteArray} {m i f:Nat}
theorem zdrZ (s:ByteArray) (m:Nat) (hm:m<=s.size):m<=skipAt s m/\skipAt s m<=s.size/\Lx.skip false (s.data.toList.drop m)=s.data.toList.drop (skipAt s m):=by
 obtain⟨j,hj,e⟩:=Lx.skip_suffix false (s.data.toList.drop m);have hl:(s.data.toList.drop m).length=s.size-m:=by rw[yhbZ,zhZ]
 have h1:skipAt s m=m+j:=by unfold skipAt;rw[e,yhbZ,hl];omega
 rw[h1,e,List.drop_drop];exact⟨by omega,by omega,rfl⟩
theorem zrzZ (hm:m<=s.size):m+((s.data.toList.drop m).length-(Lx.skip false (s.data.toList.drop m)).length)=skipAt s m:=by
 have h:=zdrZ s m hm;rw[h.2.2,yhbZ,yhbZ,zhZ];omega
theorem zwlZ (hm:m<=s.size) (hq:skipAt s m=s.size):Lx.go (f+1) m i (s.data.toList.drop m)=([],none):=by
 have h:=zdrZ s m hm;simp only[Lx.go];rw[h.2.2,hq,yNZ (by rw[zhZ];exact ybZ _)]
theorem go_at (hm:m<=s.size) (hq:skipAt s m<s.size):Lx.go (f+1) m i (s.data.toList.drop m)=
  if !Lx.begins (s[skipAt s m]'hq)then([],some (10,skipAt s m))
   else if i==4096 then([],some (3,skipAt s m))
   else match Lx.cut (skipAt s m) (s.data.toList.drop (skipAt s m))with
    | .bad why x=>([],some (why,x))
    | .ok t n=>((t::(Lx.go f (skipAt s m+n) (i+1) (s.data.toList.drop (skipAt s m+n))).1),(Lx.go f (skipAt s m+n) (i+1) (s.data.toList.drop (skipAt s m+n))).2):=by
 have h:=zdrZ s m hm;simp only[Lx.go,zrzZ hm];rw[h.2.2];have e:∀(n:Nat),List.drop n (List.drop (skipAt s m) s.data.toList)=List.drop (skipAt s m+n) s.data.toList:=fun n=>by rw[List.drop_drop]
 rw[zkZ s _ hq];simp only;rw[<-zkZ s _ hq];simp only[e];rfl
theorem zunZ (hm:m<=s.size) (hq:skipAt s m<s.size) (hb:Lx.begins (s[skipAt s m]'hq)=false):Lx.go (f+1) m i (s.data.toList.drop m)=([],some (10,skipAt s m)):=by
 rw[go_at hm hq,hb];rfl
theorem zuoZ (hm:m<=s.size) (hq:skipAt s m<s.size) (hb:Lx.begins (s[skipAt s m]'hq)=true) (hi:i=4096):Lx.go (f+1) m i (s.data.toList.drop m)=([],some (3,skipAt s m)):=by
 rw[go_at hm hq,hb,hi];rfl
theorem zwmZ {y x:Nat} (hm:m<=s.size) (hq:skipAt s m<s.size) (hb:Lx.begins (s[skipAt s m]'hq)=true) (hi:i≠4096) (h:Lx.cut (skipAt s m) (s.data.toList.drop (skipAt s m))=.bad y x) :
  Lx.go (f+1) m i (s.data.toList.drop m)=([],some (y,x)):=by
 rw[go_at hm hq,hb,h,if_neg (by simp),if_neg (by simpa using hi)]
theorem go_ok {t:Lx.Tok} {n:Nat} (hm:m<=s.size) (hq:skipAt s m<s.size) (hb:Lx.begins (s[skipAt s m]'hq)=true) (hi:i≠4096) (h:Lx.cut (skipAt s m) (s.data.toList.drop (skipAt s m))=.ok t n) :
  Lx.go (f+1) m i (s.data.toList.drop m)=(t::(Lx.go f (skipAt s m+n) (i+1) (s.data.toList.drop (skipAt s m+n))).1,(Lx.go f (skipAt s m+n) (i+1) (s.data.toList.drop (skipAt s m+n))).2):=by
 rw[go_at hm hq,hb,h,if_neg (by simp),if_neg (by simpa using hi)]
theorem zldZ {q:Nat} {t:Lx.Tok} {n:Nat} (hq:q<s.size) (h:Lx.cut q (s.data.toList.drop q)=.ok t n):0<n/\q+n<=s.size:=by
 have:=Lx.cut_len h;rw[yhbZ,zhZ]at this;omega
end
theorem zcuZ {w w1 w2:World} {b:Nat} (h:w.grownBy w1 none) (h':w1.grownBy w2 (some b)) (hb:w.heap.size<=b):w.grownBy w2 none:=
 ⟨h'.os.trans h.os,h'.tape.trans h.tape,h'.output.trans h.output,ymZ h.size h'.size,fun j hj _=>(h'.block j (by have:=h.size;omega) (fun e=>by injection e with e;omega)).trans (h.block j hj (fun e=>nomatch e))⟩
theorem IsRef.alloc {w:World} {g:Nat} {x y:Int} (h:IsRef w g x y) (o:Obj):IsRef (w.alloc o) g x y:=heap_alloc h o
end Go.Proofs.YtdncljdfmdgdaaaGreatDoor
namespace Go.Proofs.YtdncljdfmdgdaaaGreatDoor
open Go.RowKit Go.Shelf
namespace Lx
def esc (c:UInt8):Bytes:=if c.toNat==10 then [92,110]else if c.toNat==34||c.toNat==92 then [92,c]else [c]
theorem quoteIn_cons (c:UInt8) (t:Bytes):quoteIn (c::t)=esc c++quoteIn t:=rfl
theorem quoteIn_append:∀(l k:Bytes),quoteIn (l++k)=quoteIn l++quoteIn k
 | [],k=>rfl
 | c::t,k=>by rw[yHZ,quoteIn_cons,quoteIn_cons,quoteIn_append t k,yiZ]
theorem zupZ (c:UInt8):(esc c).length<=2:=by
 unfold esc;split
 ·simp
 ·split <;> simp
theorem quoteIn_len:∀(l:Bytes),(quoteIn l).length<=2 * l.length
 | []=>by simp[quoteIn]
 | c::t=>by rw[quoteIn_cons,ycZ];have:=zupZ c;have:=quoteIn_len t;simp;omega
end Lx
theorem zexZ (s:ByteArray) (m:Nat) (h:m<s.size):s.data.toList.take (m+1)=s.data.toList.take m++[s[m]]:=by
 have:=zcmZ s 0 m (yxZ _) h;simpa using this
theorem zleZ (s:ByteArray) (w:World) (hs:s.size<=70368744177600) :
  Calls Tryz.prog 114 #[.string s] w fun e w'=>e=.returned (.string ⟨(Lx.quote s.data.toList).toArray⟩)/\Below w.heap.size w w':=by
 go_enter Tryz.func114, Tryz.ntmps114
 have h0:Bld w.heap.size w.heap.size [] (w.alloc (.cells #[.pointer none,.slice none 0 0] 100)):=Lib.fresh_isBuilder _ _ _;have H7:Below w.heap.size w (w.alloc (.cells #[.pointer none,.slice none 0 0] 100)):=(yqZ _ w).alloc (ybZ _) _;go_wp2_with (go_at_call 93;refine(zdqZ w.heap.size w.heap.size [] 34 _ h0 (by decide) H7.size).mono ?_;rintro e w1 ⟨rfl,h1,hb1'⟩;have Ha:=H7.trans hb1';clear hb1');have H1:=zh h1;have H9:=zh Ha;clear h1 Ha h0 H7;go_loopg [8] (s.size) (fun n v wr=>∃m:Nat,n=s.size-m/\v=.int .i64 (m:Int)/\m<=s.size/\Bld w.heap.size w.heap.size (34::Lx.quoteIn (s.data.toList.take m)) wr/\Below w.heap.size w wr)
 case atStart=>exact⟨0,rfl,rfl,yxZ _,H1.o,H9.o⟩
 case round=>
  obtain⟨m,hn,rfl,hm,hB,hb⟩:=hrel;have HN:=zh hn;clear hn H1 H9;by_cases hlt:m<s.size
  ·have hi:(m:Int)<(s.size:Int):=(by omega);have Hf:(0:Int)<=(m:Int):=(by omega);have Hd:(m:Int)<=70368744177600:=(by omega);obtain⟨c,hc⟩:∃c,c=s[m]'hlt:=⟨_,rfl⟩;obtain⟨l,hl⟩:=zE (34::Lx.quoteIn (s.data.toList.take m));have He:l.length<=2 * s.size+1:=(by rw[<-hl];have:=Lx.quoteIn_len (s.data.toList.take m);simp only[yhZ,yUZ,zhZ]at this ⊢;omega);have HT:=zh (zexZ s m hlt);have HL:=zh hl;rw[hl]at hB;clear hl hc;have H6:=hb.size;have H3:∀w',Bld w.heap.size w.heap.size (l++Lx.esc (s[m]'hlt)) w'->Bld w.heap.size w.heap.size (34::Lx.quoteIn (s.data.toList.take (m+1))) w':=(by intro w' h;rw[HT.o,Lx.quoteIn_append,<-yHZ,HL.o];have e:Lx.quoteIn [s[m]'hlt]=Lx.esc (s[m]'hlt):=(by rw[Lx.quoteIn_cons];simp[Lx.quoteIn]);rw[e];exact h);by_cases h10:(s[m]'hlt).toNat=10
   ·have B10:(((s[m]'hlt).toNat:Int)==10)=true:=(by simp;omega);have he:Lx.esc (s[m]'hlt)=[92,110]:=(by simp[Lx.esc,h10]);rw[he]at H3;clear h10 he;go_wp2_with (go_at_call 94;refine(zkxZ w.heap.size w.heap.size l ⟨#[92,110]⟩ _ hB (by show l.length+2<=_;omega) H6).mono ?_;rintro e w2 ⟨rfl,h2,hb2'⟩;have H5:=hb.trans hb2';clear hb2');go_roundg (s.size-(m+1))
    case measure=>have:=HN.o;omega
    case rel=>exact⟨m+1,rfl,by simp,hlt,H3 _ h2,H5⟩
   ·have B10:(((s[m]'hlt).toNat:Int)==10)=false:=(by simp;omega);by_cases hq:(s[m]'hlt).toNat=34\/(s[m]'hlt).toNat=92
    ·have he:Lx.esc (s[m]'hlt)=[92,s[m]'hlt]:=(by simp[Lx.esc,h10,hq]);rw[he]at H3;have H0:∀(w2:World),Bld w.heap.size w.heap.size (l++[92]) w2->Below w.heap.size w w2->Calls Tryz.prog 93 #[.pointer (some ⟨w.heap.size,0,none⟩),.int .u8 ((s[m]'hlt).toNat:Int)] w2 fun e w'=>e=.returned .nilIface/\Bld w.heap.size w.heap.size (l++[92,s[m]'hlt]) w'/\Below w.heap.size w w':=fun w2 h2 H5=>
      (zdqZ w.heap.size w.heap.size (l++[92]) (s[m]'hlt) w2 h2 (by simp;omega) H5.size).mono fun e w' h=>⟨h.1,by simpa using h.2.1,H5.trans h.2.2⟩
     have H2:Calls Tryz.prog 93 #[.pointer (some ⟨w.heap.size,0,none⟩),.int .u8 92] wr fun e w'=>e=.returned .nilIface/\Bld w.heap.size w.heap.size (l++[92]) w'/\Below w.heap.size w w':=
      (zdqZ w.heap.size w.heap.size l 92 wr hB (by omega) H6).mono fun e w' h=>⟨h.1,h.2.1,hb.trans h.2.2⟩
     by_cases h34:(s[m]'hlt).toNat=34
     ·have B34:(((s[m]'hlt).toNat:Int)==34)=true:=(by simp;omega);clear h10 hq h34 he;go_wp2_with (first | (go_at_call 93;refine H2.mono ?_;clear H2;rintro e w2 ⟨rfl,h2,H5⟩) | (go_at_call 93;refine(H0 w2 h2 H5).mono ?_;clear H0;rintro e w3 ⟨rfl,h3,H4⟩));go_roundg (s.size-(m+1))
      case measure=>have:=HN.o;omega
      case rel=>exact⟨m+1,rfl,by simp,hlt,H3 _ h3,H4⟩
     ·have B34:(((s[m]'hlt).toNat:Int)==34)=false:=(by simp;omega);have B92:(((s[m]'hlt).toNat:Int)==92)=true:=(by simp;omega);clear h10 hq h34 he;go_wp2_with (first | (go_at_call 93;refine H2.mono ?_;clear H2;rintro e w2 ⟨rfl,h2,H5⟩) | (go_at_call 93;refine(H0 w2 h2 H5).mono ?_;clear H0;rintro e w3 ⟨rfl,h3,H4⟩));go_roundg (s.size-(m+1))
      case measure=>have:=HN.o;omega
      case rel=>exact⟨m+1,rfl,by simp,hlt,H3 _ h3,H4⟩
    ·have B34:(((s[m]'hlt).toNat:Int)==34)=false:=(by simp;omega);have B92:(((s[m]'hlt).toNat:Int)==92)=false:=(by simp;omega);have he:Lx.esc (s[m]'hlt)=[s[m]'hlt]:=(by simp[Lx.esc,h10,hq]);rw[he]at H3;have H0:Calls Tryz.prog 93 #[.pointer (some ⟨w.heap.size,0,none⟩),.int .u8 ((s[m]'hlt).toNat:Int)] wr fun e w'=>e=.returned .nilIface/\Bld w.heap.size w.heap.size (l++[s[m]'hlt]) w'/\Below w.heap.size w w':=
      (zdqZ w.heap.size w.heap.size l (s[m]'hlt) wr hB (by omega) H6).mono fun e w' h=>⟨h.1,h.2.1,hb.trans h.2.2⟩
     clear h10 hq he;go_wp2_with (go_at_call 93;refine H0.mono ?_;clear H0;rintro e w3 ⟨rfl,h3,H4⟩);go_roundg (s.size-(m+1))
     case measure=>have:=HN.o;omega
     case rel=>exact⟨m+1,rfl,by simp,hlt,H3 _ h3,H4⟩
  ·have H8:m=s.size:=(by omega);have hi:¬(m:Int)<(s.size:Int):=(by omega);have hq:34::Lx.quoteIn (s.data.toList.take m)++[34]=Lx.quote s.data.toList:=(by rw[H8,yjZ (by rw[zhZ];exact ybZ _)];rfl);have Hc:=Lx.quoteIn_len (s.data.toList.take m);rw[yUZ,zhZ]at Hc;have H0:Calls Tryz.prog 93 #[.pointer (some ⟨w.heap.size,0,none⟩),.int .u8 34] wr fun e w'=>e=.returned .nilIface/\Bld w.heap.size w.heap.size (Lx.quote s.data.toList) w'/\Below w.heap.size w w':=
    (zdqZ w.heap.size w.heap.size _ 34 wr hB (by simp;omega) hb.size).mono fun e w' h=>⟨h.1,by rw[<-hq];exact h.2.1,hb.trans h.2.2⟩
   clear hq H8 hB;go_wp2_with (first | (go_at_call 93;refine H0.mono ?_;clear H0;rintro e w3 ⟨rfl,h3,H4⟩) | (go_at_call 95;refine(Tryz.Builder_String_any w.heap.size w.heap.size _ _ h3 H4.size).mono ?_;rintro e w4 ⟨rfl,Hb⟩));go_ret;exact⟨rfl,H4.trans Hb⟩
def OfT (T:Nat) (o:Obj):Prop:=∃cs fr,o=.cells cs T fr
structure KeepT (T n₀:Nat) (W W':World):Prop where
 size:W.heap.size<=W'.heap.size
 low:∀k,k<n₀->k<W.heap.size->W'.heap[k]? =W.heap[k]?
 own:∀(k:Nat) (o:Obj),W.heap[k]? =some o->OfT T o->W'.heap[k]? =some o
def AbT {β:Type} (T B:Nat) (J:β->World->Prop):Prop:=
 ∀s W W' row,J s W->W.grownBy W' row->(∀r,row=some r->B<=r/\∃o:Obj,W.heap[r]? =some o/\(o.isCells=false\/OfT T o))->J s W'
theorem KeepT.refl (T n₀:Nat) (W:World):KeepT T n₀ W W:=⟨ybZ _,fun _ _ _=>rfl,fun _ _ h _=>h⟩
theorem KeepT.trans {T n₀:Nat} {A B C:World} (h:KeepT T n₀ A B) (k:KeepT T n₀ B C):KeepT T n₀ A C:=
 ⟨ymZ h.size k.size,fun i hi hA=>(k.low i hi (yJZ hA h.size)).trans (h.low i hi hA),fun i o hi ho=>k.own i o (h.own i o hi ho) ho⟩
theorem KeepT.alloc (T n₀:Nat) (W:World) (o:Obj):KeepT T n₀ W (W.alloc o):=
 ⟨by simp,fun k _ hk=>Below.heap_alloc W o k hk,fun k o' hk _=>(Below.heap_alloc W o k (Array.getElem?_eq_some_iff.1 hk).1).trans hk⟩
theorem AbT.put {β:Type} {T B:Nat} {J:β->World->Prop} (h:AbT T B J) {s:β} {W:World} {l:Nat} {o:Obj} (o':Obj) (hs:J s W) (hB:B<=l) (hl:W.heap[l]? =some o) (ho:o.isCells=false):J s (W.putObj l o'):=
 h s W _ (some l) hs (grownBy_putObj' W l o') (fun r e=>by cases e;exact⟨hB,o,hl,.inl ho⟩)
theorem AbT.new {β:Type} {T B:Nat} {J:β->World->Prop} (h:AbT T B J) {s:β} {W:World} (o:Obj) (hs:J s W):J s (W.alloc o):=
 h s W _ none hs (yeZ W o none) (fun r e=>by cases e)
section
variable {F:Fence} {n:Nat} {P:Program}
end
end Go.Proofs.YtdncljdfmdgdaaaGreatDoor
