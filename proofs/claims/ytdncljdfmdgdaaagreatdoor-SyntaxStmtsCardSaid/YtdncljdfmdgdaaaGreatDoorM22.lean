/-
  The walk of expr: the kinds without parts.
-/
import Derived.Test.YtdncljdfmdgdaaaGreatDoorM21
set_option linter.unusedSimpArgs false
set_option linter.unusedVariables false
set_option maxRecDepth 100000
set_option maxHeartbeats 8000000
namespace Go.Proofs.YtdncljdfmdgdaaaGreatDoor
open Go.RowKit Go.Shelf Go.WideMaps
theorem zfdZ (a:Option Addr) (len cap:Nat) (w:World) (h:1<=len) :
  (Instr.slice 37 (.slice a len cap) (some (.int .i64 1)) none none).run Tryz.prog w=.ok (sliced a 1 len cap 7) w:=by
 have hs:(sizeOf (Tryz.prog.elem 37)).run Tryz.prog w=.ok 7 w:=by kernel_rfl
 rw[run_slice_l (P:= Tryz.prog) w 37 a len cap Tryz.underlying37 .i64 1 (by omega) (by omega),hs];rfl
theorem IsExs.shift {W:World} {g off:Nat} : ∀ {l:List Sx.Ex} {i:Nat},IsExs W (some ⟨g,off,none⟩) (i+1) l->IsExs W (some ⟨g,off+7,none⟩) i l
 | [],i,_=>by rw[IsExs];trivial
 | t::l,i,h=>by rw[IsExs]at h ⊢;obtain⟨⟨g',off',v0,v1,v2,v3,v4,v5,v6,hA,k0,k1,k2,k3,k4,k5,k6,ht⟩,hl⟩:=h;injection hA with hA;injection hA with e1 e2;subst e1 e2;rw[show off+(i+1) * 7=off+7+i * 7 by omega]at k0 k1 k2 k3 k4 k5 k6;exact⟨⟨g,off+7,v0,v1,v2,v3,v4,v5,v6,rfl,k0,k1,k2,k3,k4,k5,k6,ht⟩,IsExs.shift hl⟩
theorem ExRow.tail {W:World} {g off k cp:Nat} {l:List Sx.Ex} (h:ExRow W (.slice (some ⟨g,off,none⟩) k cp) l) (hl:0<l.length):ExRow W (sliced (some ⟨g,off,none⟩) 1 k cp 7) l.tail:=by
 obtain⟨A,c,hv,hc,hr⟩:=h;injection hv with e1 e2 e3;subst e1 e2 e3
 cases l with
 | nil=>simp at hl
 | cons x l=>
  rw[IsExs]at hr;refine⟨_,cp-1,by unfold sliced;rw[List.tail_cons,yhZ];rfl,by simp at hc ⊢;omega,?_⟩;rw[List.tail_cons];by_cases h1:cp=1
  ·have:l=[]:=by
    cases l with
    | nil=>rfl
    | cons y l=>simp at hc;omega
   subst this;rw[IsExs];trivial
  ·rw[if_neg h1];exact IsExs.shift hr.2
theorem zsuZ (s:Lx.Bytes) (h:s.length<=100000000):Lx.quote s≠[]/\(Lx.quote s).length<=1000000000:=⟨by unfold Lx.quote;simp,by have:=Lx.quote_len s;omega⟩
theorem zsvZ (w:World) (k:Nat) (os:Array Obj):w.grownBy (Sort.grow (w.drewN k) os) none:=zbhZ (Lib.below_grow _ _ (ybZ _) _ _)
theorem zswZ {W0:World} {b:Nat} {x:Sx.Ex} (ih:∀p∈x.parts,ExprOk W0 b p) (hG:GS W0) (hN:NG<=W0.heap.size) (hkd:x.kind=5):ExprOk W0 b x:=by
 intro v l w hr ht hz h hc;obtain⟨hsh,hrp⟩:=hr.shape;have H5:=Sx.sizeX_parts x;have H4:=Sx.textX_len x;rw[Sx.expr_eq,hkd]at hc ⊢;rw[hkd]at hsh;simp only[Int.reduceEq,ycbZ,yXZ,yjbZ,ylbZ,or_true,true_or,reduceIte,Nat.reduceEqDiff]at hc ⊢;simp[Sx.shapeX]at hsh;obtain⟨At,ct,An,cn,Ap,cp,rfl,htt,hnn,hp,hn0,hn1⟩:=ht.agg;rw[hkd];have hb:l.length+1<=1000000000:=by simp at hc;omega
 obtain⟨L,hL⟩:=zE (w.heap.size);obtain⟨w2,hw2⟩:=zE (w.alloc (.cells #[.int .i64 x.pos,.int .i64 5,.int .i64 x.n,.string ⟨x.s.toArray⟩,.slice At x.t.length ct,.slice An x.names.length cn,.slice Ap x.parts.length cp] 39));have H0:=Live.first h #[.int .i64 x.pos,.int .i64 5,.int .i64 x.n,.string ⟨x.s.toArray⟩,.slice At x.t.length ct,.slice An x.names.length cn,.slice Ap x.parts.length cp] 39 hw2;rw[hL]at H0;have H2:=zh H0;clear H0 h;clear hr ht hz hc hsh hrp H5 H4 htt hnn hp hn0 hn1 hkd ih hG hN;go_enter Tryz.func64, Tryz.ntmps64;obtain⟨x0,x1,x2,x3,x4,x5,x6,hl1,hl2,hbl⟩:=H2.o.c7;go_wp2_with (go_at_call 100;refine(H2.o.lput1 [115,101,108,102] ⟨by simp,by simp⟩ hb).mono ?_;rintro e w3 ⟨rfl,hW3,H1⟩);have H3:=zh (H2.o.go oEx oEx hW3 H1);clear hW3 H1;clear x0 x1 x2 x3 x4 x5 x6 hl1 hl2 hbl;go_end0;refine⟨rfl,?_,H3.o.kp⟩;have h9:=H3.o.wr;exact h9
theorem zsxZ {W0:World} {b:Nat} {x:Sx.Ex} (ih:∀p∈x.parts,ExprOk W0 b p) (hG:GS W0) (hN:NG<=W0.heap.size) (hkd:x.kind=4):ExprOk W0 b x:=by
 intro v l w hr ht hz h hc;obtain⟨hsh,hrp⟩:=hr.shape;have H8:=Sx.sizeX_parts x;have H7:=Sx.textX_len x;rw[Sx.expr_eq,hkd]at hc ⊢;rw[hkd]at hsh;simp only[Int.reduceEq,ycbZ,yXZ,yjbZ,ylbZ,or_true,true_or,reduceIte,Nat.reduceEqDiff]at hc ⊢;simp[Sx.shapeX]at hsh;obtain⟨At,ct,An,cn,Ap,cp,rfl,htt,hnn,hp,hn0,hn1⟩:=ht.agg;rw[hkd];have hb:l.length+1<=1000000000:=by simp at hc;omega
 have H4:x.s≠[]/\x.s.length<=1000000000:=⟨NM.ok.small _ hsh.1,by omega⟩;obtain⟨L,hL⟩:=zE (w.heap.size);obtain⟨w2,hw2⟩:=zE (w.alloc (.cells #[.int .i64 x.pos,.int .i64 4,.int .i64 x.n,.string ⟨x.s.toArray⟩,.slice At x.t.length ct,.slice An x.names.length cn,.slice Ap x.parts.length cp] 39));have H0:=Live.first h #[.int .i64 x.pos,.int .i64 4,.int .i64 x.n,.string ⟨x.s.toArray⟩,.slice At x.t.length ct,.slice An x.names.length cn,.slice Ap x.parts.length cp] 39 hw2;rw[hL]at H0;have H2:=zh H0;clear H0 h;have H6:=zh H4;clear hr ht hz hc hsh hrp H8 H7 htt hnn hp hn0 hn1 hkd ih hG hN H4;go_enter Tryz.func64, Tryz.ntmps64;obtain⟨x0,x1,x2,x3,x4,x5,x6,hl1,hl2,hbl⟩:=H2.o.c7;go_upto_region 10 with fail;have H1:=zh H2.o.drew
 go_region_with (go_at_call 100;refine(H1.o.lput1 x.s H6.o hb).mono ?_;rintro e w3 ⟨rfl,hW3,H5⟩)
 have H3:=zh (H1.o.go oEx oEx hW3 H5);clear hW3 H5;clear x0 x1 x2 x3 x4 x5 x6 hl1 hl2 hbl;go_end0;refine⟨rfl,?_,H3.o.kp⟩;have h9:=H3.o.wr;exact h9
theorem zsyZ {W0:World} {b:Nat} {x:Sx.Ex} (ih:∀p∈x.parts,ExprOk W0 b p) (hG:GS W0) (hN:NG<=W0.heap.size) (hkd:x.kind=1):ExprOk W0 b x:=by
 intro v l w hr ht hz h hc;obtain⟨hsh,hrp⟩:=hr.shape;have Hc:=Sx.sizeX_parts x;have Hb:=Sx.textX_len x;rw[Sx.expr_eq,hkd]at hc ⊢;rw[hkd]at hsh;simp only[Int.reduceEq,ycbZ,yXZ,yjbZ,ylbZ,or_true,true_or,reduceIte,Nat.reduceEqDiff]at hc ⊢;simp[Sx.shapeX]at hsh;have H9:0<=x.n:=by have:=hsh.2.1;omega
 obtain⟨At,ct,An,cn,Ap,cp,rfl,htt,hnn,hp,hn0,hn1⟩:=ht.agg;rw[hkd];have hb:l.length+1<=1000000000:=by simp at hc;omega
 obtain⟨dg,hdg⟩:=zE (SY.digits x.n);have H1:dg=Lib.decDigits x.n.toNat:=by rw[<-hdg];rfl
 have H8:dg≠[]/\dg.length<=1000000000:=by rw[H1];have h1:=Lib.decDigits_length x.n.toNat;have h2:=Lib.nDigits_pos x.n.toNat;have h3:=nD_le 19 x.n.toNat (by omega);refine⟨fun e=>?_,by omega⟩;rw[e]at h1;simp at h1;omega
 have H4:∀w',Below W0.heap.size W0 w'->Calls Tryz.prog 113 #[.int .i64 x.n] w' fun e w''=>e=.returned (.string ⟨dg.toArray⟩)/\w'.grownBy w'' none:=fun w' hb'=>
  (Tryz.strconv_Itoa x.n hn0 hn1 w' (hG.below hb').pow).mono fun e w'' ⟨he,k,os,hw⟩=>⟨by rw[he,H1];unfold Lib.itoa;rw[if_neg (by omega)],by rw[hw];exact zsvZ _ _ _⟩
 rw[hdg];obtain⟨L,hL⟩:=zE (w.heap.size);obtain⟨w2,hw2⟩:=zE (w.alloc (.cells #[.int .i64 x.pos,.int .i64 1,.int .i64 x.n,.string ⟨x.s.toArray⟩,.slice At x.t.length ct,.slice An x.names.length cn,.slice Ap x.parts.length cp] 39));have H0:=Live.first h #[.int .i64 x.pos,.int .i64 1,.int .i64 x.n,.string ⟨x.s.toArray⟩,.slice At x.t.length ct,.slice An x.names.length cn,.slice Ap x.parts.length cp] 39 hw2;rw[hL]at H0;have H2:=zh H0;clear H0 h;have Hd:=zh H8;have Ha:=zh H4;clear hr ht hz hc hsh hrp Hc Hb htt hnn hp hn0 hn1 hkd ih hG hN H8 H4 H1 hdg;go_enter Tryz.func64, Tryz.ntmps64;obtain⟨x0,x1,x2,x3,x4,x5,x6,hl1,hl2,hbl⟩:=H2.o.c7;go_upto_region 4 with fail;have H6:=zh H2.o.drew
 go_region_with (first | (go_at_call 113;refine(Ha.o _ H6.o.wr.below).mono ?_;rintro e w9 ⟨rfl,H7⟩;have HF:=zh (H6.o.grow H7);have He:=HF.o.lt;clear H7) | (go_at_call 100;refine(HF.o.lput1 dg Hd.o hb).mono ?_;rintro e w3 ⟨rfl,hW3,H5⟩))
 have H3:=zh (HF.o.go oEx oEx hW3 H5);clear hW3 H5;clear x0 x1 x2 x3 x4 x5 x6 hl1 hl2 hbl;go_end0;refine⟨rfl,?_,H3.o.kp⟩;have h9:=H3.o.wr;exact h9
theorem zszZ {W0:World} {b:Nat} {x:Sx.Ex} (ih:∀p∈x.parts,ExprOk W0 b p) (hG:GS W0) (hN:NG<=W0.heap.size) (hkd:x.kind=2):ExprOk W0 b x:=by
 intro v l w hr ht hz h hc;obtain⟨hsh,hrp⟩:=hr.shape;have H9:=Sx.sizeX_parts x;have H8:=Sx.textX_len x;rw[Sx.expr_eq,hkd]at hc ⊢;rw[hkd]at hsh;simp only[Int.reduceEq,ycbZ,yXZ,yjbZ,ylbZ,or_true,true_or,reduceIte,Nat.reduceEqDiff]at hc ⊢;simp[Sx.shapeX]at hsh;obtain⟨At,ct,An,cn,Ap,cp,rfl,htt,hnn,hp,hn0,hn1⟩:=ht.agg;rw[hkd];have hb:l.length+1<=1000000000:=by simp at hc;omega
 obtain⟨dg,hdg⟩:=zE (SY.quote x.s);have H6:dg≠[]/\dg.length<=1000000000:=by rw[<-hdg];exact zsuZ x.s (by omega)
 have H1:∀w',Calls Tryz.prog 114 #[.string ⟨x.s.toArray⟩] w' fun e w''=>e=.returned (.string ⟨dg.toArray⟩)/\w'.grownBy w'' none:=fun w'=>
  (zleZ ⟨x.s.toArray⟩ w' (by simp[ByteArray.size];omega)).mono fun e w'' ⟨he,hb⟩=>⟨by rw[he,<-hdg];rfl,zbhZ hb⟩
 rw[hdg];obtain⟨L,hL⟩:=zE (w.heap.size);obtain⟨w2,hw2⟩:=zE (w.alloc (.cells #[.int .i64 x.pos,.int .i64 2,.int .i64 x.n,.string ⟨x.s.toArray⟩,.slice At x.t.length ct,.slice An x.names.length cn,.slice Ap x.parts.length cp] 39));have H0:=Live.first h #[.int .i64 x.pos,.int .i64 2,.int .i64 x.n,.string ⟨x.s.toArray⟩,.slice At x.t.length ct,.slice An x.names.length cn,.slice Ap x.parts.length cp] 39 hw2;rw[hL]at H0;have H2:=zh H0;clear H0 h;have Ha:=zh H6;have H7:=zh H1;clear hr ht hz hc hsh hrp H9 H8 htt hnn hp hn0 hn1 hkd ih hG hN H6 H1 hdg;go_enter Tryz.func64, Tryz.ntmps64;obtain⟨x0,x1,x2,x3,x4,x5,x6,hl1,hl2,hbl⟩:=H2.o.c7;go_upto_region 6 with fail;have Hb:=zh H2.o.drew
 go_region_with (first | (go_at_call 114;refine(H7.o _).mono ?_;rintro e w9 ⟨rfl,H5⟩;have HF:=zh (Hb.o.grow H5);have Hc:=HF.o.lt;clear H5) | (go_at_call 100;refine(HF.o.lput1 dg Ha.o hb).mono ?_;rintro e w3 ⟨rfl,hW3,H4⟩))
 have H3:=zh (HF.o.go oEx oEx hW3 H4);clear hW3 H4;clear x0 x1 x2 x3 x4 x5 x6 hl1 hl2 hbl;go_end0;refine⟨rfl,?_,H3.o.kp⟩;have h9:=H3.o.wr;exact h9
end Go.Proofs.YtdncljdfmdgdaaaGreatDoor
