/-
  The walk of coilref2's at and args.
-/
import Derived.Test.YtdncljdfmdgdaaaGreatDoorM1
import Derived.Test.YtdncljdfmdgdaaaGreatDoorM32
import Derived.Test.YtdncljdfmdgdaaaGreatDoorM26
import Derived.Test.YtdncljdfmdgdaaaGreatDoorM33
import Derived.Test.YtdncljdfmdgdaaaGreatDoorM34
import Derived.Test.YtdncljdfmdgdaaaGreatDoorM28
set_option linter.unusedSimpArgs false
set_option linter.unusedVariables false
set_option maxRecDepth 100000
set_option maxHeartbeats 16000000
namespace Go.Proofs.YtdncljdfmdgdaaaGreatDoor
open Go.RowKit Go.Shelf
attribute [local go_sem] opWp zbaZ zbcZ zbbZ
def ToldIs (x:Sx.Ex) (v:Value) (W:World):Prop:=Calls Tryz.prog 34 #[v] W fun e W'=>∃u,e=.returned u∧OwnS W' W.heap.size u (Sx.expr SY x)∧Below W.heap.size W W'
def ToldOk (n:Nat):Prop:=∀(x:Sx.Ex),Sx.sizeX x≤n→Sx.okX x→Sx.numX x→∀(v:Value) (W:World),GL W→NG≤W.heap.size→IsEx W v x→ToldIs x v W
theorem Sx.sizeXs_take_le (l:List Sx.Ex) (m:Nat):Sx.sizeXs (l.take m)≤Sx.sizeXs l:=by
 have h:=Sx.sizeXs_append (l.take m) (l.drop m)
 rw[List.take_append_drop]at h
 omega
theorem zbgZ {α:Type} {l m:List α} (h:0<m.length):0<(l++m).length:=by rw[List.length_append];omega
theorem zgvZ {α:Type} {l m:List α} (h:0<l.length):0<(l++m).length:=by rw[List.length_append];omega
theorem zbjZ {α:Type} {c:Prop} [Decidable c] {l m:List α} (h:c→0<l.length) (k:¬c→0<m.length):0<(if c then l else m).length:=by
 split
 ·exact h ‹_›
 ·exact k ‹_›
theorem Sx.expr_pos {x:Sx.Ex} (h:Sx.okX x):0<(Sx.expr SY x).length:=by
 rw[Sx.expr_eq]
 refine zbjZ (fun _=>Nat.succ_pos _) fun _=>zbjZ (fun _=>Nat.succ_pos _) fun _=>zbjZ (fun _=>Nat.succ_pos _) fun _=>zbjZ (fun _=>Nat.succ_pos _) fun _=>zbjZ (fun _=>Nat.succ_pos _) fun _=>zbjZ (fun _=>Nat.succ_pos _) fun _=>
  zbjZ (fun _=>zbgZ (Nat.succ_pos _)) fun _=>zbjZ (fun _=>zbgZ (Nat.succ_pos _)) fun _=>zbjZ (fun _=>zgvZ (zbgZ (Nat.succ_pos _))) fun _=>zbjZ (fun h11=>zbgZ ?_) fun _=>zbjZ (fun _=>zgvZ (zbgZ (Nat.succ_pos _))) fun _=>zbjZ (fun _=>Nat.succ_pos _) fun _=>zgvZ (zbgZ (Nat.succ_pos _))
 have hs:=h.shape.1
 unfold Sx.shapeX at hs
 simp only[Bool.and_eq_true]at hs
 have h5:=hs.2.2.2.2
 rw[h11]at h5
 simp at h5
 have hl:0<x.parts.length:=by omega
 rw[Sx.args_tail hl]
 unfold Sx.listed
 exact zbgZ (Nat.succ_pos _)
theorem Sx.part_pos (lv:Nat) {x:Sx.Ex} (h:Sx.okX x):0<(Sx.part lv x).length:=by
 unfold Sx.part Sx.within
 exact zbjZ (fun _=>zbgZ (Nat.succ_pos _)) fun _=>Sx.expr_pos h
theorem Sx.part_len (lv:Nat) (x:Sx.Ex):(Sx.part lv x).length≤8 * Sx.sizeX x:=by
 have:=Sx.expr_len SY x
 unfold Sx.part Sx.within
 split <;> simp <;> omega
theorem zcbZ (n:Nat) (hn:n≤1000000) (ih:ToldOk n) (x:Sx.Ex) (hsz:Sx.sizeX x≤n) (hok:Sx.okX x) (hnum:Sx.numX x) (lv:Nat) (hlv:lv≤8) (v:Value) (W:World) (hG:GL W) (hN:NG≤W.heap.size) (ht:IsEx W v x) :
  Calls Tryz.prog 78 #[v,.int .i64 (lv:Nat)] W fun e W'=>∃u,e=.returned u∧OwnS W' W.heap.size u (Sx.part lv x)∧Below W.heap.size W W':=by
 obtain⟨At,ct,An,cn,Ap,cp,rfl,htt,hnn,hp,hn0,hn1⟩:=ht.agg
 have Hk:=hok.kind
 have H9:=Sx.expr_len SY x
 have H3:=zh (show(Sx.expr SY x).length≤8000000 by omega)
 have Hf:(0:Int)≤(lv:Int)∧(lv:Int)≤8:=by omega
 have Hh:=zh (fun X (h1:GL X) (h2:NG≤X.heap.size) (h3:Below W.heap.size W X)=>ih x hsz hok hnum _ X h1 h2 (IsEx.below h3 _ _ ht))
 have He:=zh Hk
 have Hb:=zh (Sx.expr_pos hok)
 clear htt hnn hp hn0 hn1 ht ih hsz hok hnum H9
 obtain⟨L,B,w2,hL,hw2,hB,HX⟩:=boxed hG hN #[.int .i64 x.pos,.int .i64 x.kind,.int .i64 x.n,.string ⟨x.s.toArray⟩,.slice At x.t.length ct,.slice An x.names.length cn,.slice Ap x.parts.length cp]
 obtain⟨x0,x1,x2,x3,x4,x5,x6⟩:=zbZ HX.o.box
 have Hd:=zaZ HX.o.box
 clear hG hN
 go_enter Tryz.func78, Tryz.ntmps78
 go_wp2_with (go_at_call 34;refine(Hh.o w2 (HX.o.gx w2 HX.o.r2).1 (HX.o.gx w2 HX.o.r2).2 (HX.o.wx w2 HX.o.r2)).mono ?_;rintro e w3 ⟨u3,rfl,H7,Ha⟩;obtain⟨A3,c3,rfl⟩:=H7.slice;rw[hB]at H7 Ha;have H8:=zh H7;have H6:=zh Ha;clear H7 Ha x0 x1 x2 x3 x4 x5 x6 Hd;obtain⟨x0,x1,x2,x3,x4,x5,x6⟩:=zbZ (HX.o.bx w3 H6.o);have Hd:=zaZ (HX.o.bx w3 H6.o))
 refine(zfsZ x.kind w3 He.o.1 He.o.2).mono ?_
 rintro e w4 ⟨rfl,rfl⟩
 obtain⟨lx,hlx⟩:=zE (Sx.level x.kind)
 rw[hlx]
 by_cases hlt:lx<lv
 ·have Hj:(lx:Int)<(lv:Int):=by omega
  have H1:=zh (show [[40]]++Sx.expr SY x++[[41]]=Sx.part lv x by unfold Sx.part;rw[hlx,if_pos hlt];rfl)
  have H5:=zh H8.o.row
  obtain⟨B3,hB3⟩:=zE (w3.heap.size)
  have Hc:=zh hB3
  have H0:=zh (show B3≤w3.heap.size by rw[hB3];exact Nat.le_refl _)
  have H4:=zh (show B≤B3 by rw[←hB3];exact Nat.le_trans HX.o.bb H6.o.size)
  obtain⟨tl,htl⟩:=zE (Sx.expr SY x)
  rw[htl]at H5 H3 H1 H8 ⊢
  have Hg:=zh (show 0<tl.length by rw[←htl];exact Hb.o)
  clear hlx htl
  go_upto_region 3 with fail
  have hB0:Below B3 w3 w3:=Below.refl _ _
  have hO0:OwnS w3 B3 (.slice none 0 0) []:=World.ownsRow_nil _ _ _ _
  obtain⟨Fs,hFs⟩:∃F:List (Value→World→Value→Nat→Prop),[AppF 0,StrF tl,AppF 1,StrF [[41]],AppF 2,AppF 2]=F:=⟨_,rfl⟩
  obtain⟨F0,F1,F2,F3,F4,F5,-⟩:=zwZ hFs
  have H2:AllStay RowM Fs:=by rw[←hFs];repeat (first | exact .nil | refine .cons (by first | exact IsF.stays | exact AppF.stays | exact StrF.stays) ?_)
  obtain⟨Lf,hLf⟩:∃f:Nat→List Lx.Bytes,(fun k=>([[],[[40]],[[40]]++tl,[[40]]++tl++[[41]]]:List (List Lx.Bytes)).getD k [])=f:=⟨_,rfl⟩
  have L0:Lf 0=[]:=by rw[←hLf];rfl
  have L1:Lf 1=[[40]]:=by rw[←hLf];rfl
  have L2:Lf 2=[[40]]++tl:=by rw[←hLf];rfl
  have L3:Lf 3=[[40]]++tl++[[41]]:=by rw[←hLf];rfl
  clear hFs hLf
  refine zqZ [0,2,4] (RowI B3 w3 (.slice none 0 0) Lf) RowM Fs (.slice none 0 0) (by kernel_rfl) (by kernel_rfl) (by kernel_rfl) (by kernel_rfl) (by kernel_rfl) H2 (n:=6) (by kernel_rfl) ⟨hB0,by rw[L0];exact hO0,fun _=>rfl⟩ ?_ ?_
  ·repeat' first | refine OpsOk.cons ?_ ?_ | fail
   ·refine OpOk.hone rfl rfl F0 H0.o L1 (by simp[maxLen]) fun ρ w r k E hI K hK=>?_
    have c:=E.c
    go_simp
    exact hK _ rfl
   ·exact OpOk.rowv (v:=.slice A3 tl.length c3) rfl rfl F1 rfl H5.o Hc.o fun ρ w r k E=>E.n 5 (by kernel_rfl)
   ·exact OpOk.appN (j:=0) (s:=13) (x:=14) (p:=0) (q:=1) rfl rfl rfl F2 L1 L2 rfl (by exact Hg.o) (by(have h1:=H3.o;simp only[List.length_append,List.length_cons,List.length_nil]at *;omega)) H0.o F0 (by kernel_rfl) F1 (by kernel_rfl)
   ·refine OpOk.one rfl rfl F3 H0.o fun ρ w r k E hI K hK=>?_
    have c:=E.c
    go_simp
    exact hK _ rfl
   ·exact OpOk.appN (j:=1) (s:=15) (x:=16) (p:=2) (q:=3) rfl rfl rfl F4 L2 L3 rfl (by simp) (by(have h1:=H3.o;simp only[List.length_append,List.length_cons,List.length_nil]at *;omega)) H0.o F2 (by kernel_rfl) F3 (by kernel_rfl)
   ·exact OpOk.asg rfl rfl F5 F4 rfl (by kernel_rfl)
   ·exact .nil
  ·intro uq wq rq hI hF
   have f5:uq 5=rq:=((zmZ F5 (hF 5 (by decide))).2 rfl).symm
   have hBz:=hI.1
   have hOz:=hI.2.1
   rw[show([0,2,4]:List Nat).length=3 from rfl,L3]at hOz
   simp only[List.toList_toArray,fillAct,Act.put,List.setIfInBounds_toArray,List.set_cons_zero,List.set_cons_succ,f5]
   clear hI hF F0 F1 F2 F3 F4 F5 H2 L0 L1 L2 L3
   have Hi:=zh hOz
   have Hl:=zh hBz
   clear hOz hBz
   go_wp2_with fail
   go_ret
   exact⟨_,rfl,by rw[←H1.o];exact Hi.o.base_le (Nat.le_trans HX.o.wb H4.o),HX.o.wx _ (H6.o.trans (Hl.o.mono H4.o))⟩
 ·have Hj:¬(lx:Int)<(lv:Int):=by omega
  have H1:=zh (show Sx.expr SY x=Sx.part lv x by unfold Sx.part;rw[hlx,if_neg hlt])
  go_wp2_with fail
  go_ret
  exact⟨_,rfl,by rw[←H1.o];exact H8.o.base_le HX.o.wb,HX.o.wx _ H6.o⟩
theorem zgwZ (n:Nat) (hn:n≤1000000) (ih:ToldOk n) (xs:List Sx.Ex) (hsz:Sx.sizeXs xs≤n) (Hx:∀p∈xs,Sx.okX p) (Hb:∀p∈xs,Sx.numX p) (v:Value) (W:World) (hG:GL W) (hN:NG≤W.heap.size) (hv:ExRow W v xs) :
  Calls Tryz.prog 79 #[v] W fun e W'=>∃u,e=.returned u∧OwnS W' W.heap.size u (Sx.listed xs)∧Below W.heap.size W W':=by
 obtain⟨Ap,cp,rfl,-,-⟩:=id hv
 obtain⟨k,hk⟩:=zE (xs.length)
 rw[hk]at hv ⊢
 have J1:=Sx.length_sizeXs xs
 have k0:(0:Int)≤(k:Int):=by omega
 have k1:(k:Int)≤1000000:=by omega
 obtain⟨B,hB⟩:=zE (W.heap.size)
 obtain⟨W1,hW1⟩:=zE (W.alloc (.cells #[.string ⟨#[40]⟩] 9))
 have Hs:Below B W W1:=by rw[←hW1,←hB];exact(Below.refl _ _).alloc (Nat.le_refl _) _
 have Hv:OwnS W1 B (.slice (some ⟨B,0,none⟩) 1 1) [[40]]:=by rw[←hW1,←hB];exact OwnS.one (heap_alloc_new W _) (Nat.le_refl _)
 have Hu:=zh ih
 have Hm:=zh (And.intro Hx Hb)
 have HP:=zh hv
 have HK:=zh hk
 have Hr:=zh (show Sx.sizeXs xs≤n∧n≤1000000 from⟨hsz,hn⟩)
 have HB:=zh hB
 have Hk:=zh (fun X (h:Below B W X)=>(show GL X∧NG≤X.heap.size by rw[←hB]at h;exact⟨hG.below h,Nat.le_trans hN h.size⟩))
 have H7:=zh (fun X (h:Below B W X)=>(show Below W.heap.size W X by rw[hB];exact h))
 have H3:=zh (show B≤W.heap.size by rw[hB];exact Nat.le_refl _)
 have Hy:=zh Hs
 have Hz:=zh Hv
 clear ih Hx Hb hv hk hsz hn Hs Hv J1 hG hN
 go_enter Tryz.func79, Tryz.ntmps79
 go_wp2_with fail
 go_loopg [3,4] k (fun i v3 v4 wr=>∃(m:Nat) (A5:Option Addr) (n5 c5:Nat),i=k-m∧v3=.slice A5 n5 c5∧v4=.int .i64 (m:Nat)∧m≤k∧OwnS wr B (.slice A5 n5 c5) ([[40]]++Sx.list SY 0 (xs.take m))∧Below B W wr)
 case atStart=>exact⟨0,some ⟨B,0,none⟩,1,1,rfl,rfl,rfl,Nat.zero_le _,Hz.o,Hy.o⟩
 case round=>
  obtain⟨m,A5,n5,c5,hi,rfl,rfl,hm,ho,hb⟩:=hrel
  have HI:=zh hi
  have HO:=zh ho
  have Ha:=zh hb
  have m0:(0:Int)≤(m:Int):=by omega
  have m1:(m:Int)≤1000000:=by omega
  clear hi ho hb
  by_cases hlt:m<k
  ·have J4:(m:Int)<(k:Int):=by omega
   have J5:IntKind.i64.wrap ((m:Int)+1)=(m:Int)+1:=by rw[IntKind.wrap_i64];omega
   have Hi:m<xs.length:=by have:=HK.o;omega
   have H0:=List.getElem_mem Hi
   have Ho:=Sx.list_take Hi
   obtain⟨g,off,Atp,ctp,Anp,cnp,App,cpp,rfl,hty,hc5⟩:=HP.o.spot m Hi
   obtain⟨p,hpe⟩:=zE (xs[m]'Hi)
   rw[hpe]at hty hc5 Ho H0
   have J0:=Sx.sizeX_mem H0
   have J2:=Sx.sizeXs_take_le xs m
   have H8:=zh (show Sx.sizeX p≤n∧Sx.okX p∧Sx.numX p from⟨by have:=Hr.o;omega,Hm.o.1 p H0,Hm.o.2 p H0⟩)
   have Hd:=zh (Sx.expr_pos (Hm.o.1 p H0))
   have H2:=zh (show([[40]]++Sx.list SY 0 (xs.take m)).length+(Sx.expr SY p).length≤50000000 by
    have h1:=Sx.list_len SY 0 (xs.take m)
    have h2:=Sx.expr_len SY p
    have h3:=Hr.o
    simp only[List.length_append,List.length_cons,List.length_nil]
    omega)
   have Ht:=zh hty
   have Hj:=zh hc5
   have Hw:=zh Ho
   clear hty hc5 Ho H0 J0 J2 hpe
   by_cases hz:0<m
   ·have J3:(0:Int)<(m:Int):=by omega
    obtain⟨wa,hwa⟩:=zE (wr.alloc (.cells #[.string ⟨#[44]⟩] 9))
    have He:OwnS wa B (.slice A5 n5 c5) ([[40]]++Sx.list SY 0 (xs.take m)):=by rw[←hwa];exact HO.o.below ((Below.refl _ _).alloc (Nat.le_refl _) _)
    have H9:Below B W wa:=by rw[←hwa];exact Ha.o.alloc (Nat.le_trans H3.o Ha.o.size) _
    have Hc:Str wa (.slice (some ⟨wr.heap.size,0,none⟩) 1 1) [[44]] (.slice A5 n5 c5):=by rw[←hwa];exact Str.one (heap_alloc_new wr _) (fun q hq=>(HO.o.lt q hq).2)
    have Hf:=zh He
    have H5:=zh H9
    have Hl:=zh Hc
    clear He H9 Hc
    go_upto_region 7 with(at_builtin;refine zpZ rfl _ _ rfl rfl rfl Hf.o Hl.o (by decide) (by have:=H2.o;simp only[List.length_append,List.length_cons,List.length_nil]at *;omega) (Nat.le_trans H3.o H5.o.size) ?_;intro r5 w5 hO5 Hg;have hB5:=zzZ H5.o (Nat.le_trans H3.o H5.o.size) Hg (fun g hg=>(Hf.o.lt g hg).1);have Hh:=zh hO5;have Hp:=zh hB5;clear hO5 hB5 Hg)
    obtain⟨A6,c6,rfl⟩:=Hh.o.slice
    have hB0:Below B W w5:=Hp.o
    have hO0:OwnS w5 B (.slice A6 (([[40]]++Sx.list SY 0 (xs.take m))++[[44]]).length c6) (([[40]]++Sx.list SY 0 (xs.take m))++[[44]]):=Hh.o
    obtain⟨Fs,hFs⟩:∃F:List (Value→World→Value→Nat→Prop),[IsF (.slice A6 (([[40]]++Sx.list SY 0 (xs.take m))++[[44]]).length c6),IsF (.slice (some ⟨g,off,none⟩) k cp),IsF (.int .i64 (m:Int)),IsF (.pointer (some ⟨g,off+m * 7,none⟩)),IsF (.agg #[.int .i64 p.pos,.int .i64 p.kind,.int .i64 p.n,.string ⟨p.s.toArray⟩,.slice Atp p.t.length ctp,.slice Anp p.names.length cnp,.slice App p.parts.length cpp]),StrF (Sx.expr SY p),AppF 0,AppF 0]=F:=⟨_,rfl⟩
    obtain⟨F0,F1,F2,F3,F4,F5,F6,F7,-⟩:=zwZ hFs
    have H1:AllStay RowM Fs:=by rw[←hFs];repeat (first | exact .nil | refine .cons (by first | exact IsF.stays | exact AppF.stays | exact StrF.stays) ?_)
    obtain⟨Lf,hLf⟩:∃f:Nat→List Lx.Bytes,(fun k=>([(([[40]]++Sx.list SY 0 (xs.take m))++[[44]]),(([[40]]++Sx.list SY 0 (xs.take m))++[[44]])++(Sx.expr SY p)]:List (List Lx.Bytes)).getD k [])=f:=⟨_,rfl⟩
    have L0:Lf 0=(([[40]]++Sx.list SY 0 (xs.take m))++[[44]]):=by rw[←hLf];rfl
    have L1:Lf 1=(([[40]]++Sx.list SY 0 (xs.take m))++[[44]])++(Sx.expr SY p):=by rw[←hLf];rfl
    clear hFs hLf
    refine zqZ [6] (RowI B W (.slice A6 (([[40]]++Sx.list SY 0 (xs.take m))++[[44]]).length c6) Lf) RowM Fs (.slice A6 (([[40]]++Sx.list SY 0 (xs.take m))++[[44]]).length c6) (by kernel_rfl) (by kernel_rfl) (by kernel_rfl) (by kernel_rfl) (by kernel_rfl) H1 (n:=8) (by kernel_rfl) ⟨hB0,by rw[L0];exact hO0,fun _=>rfl⟩ ?_ ?_
    ·repeat' first | refine OpsOk.cons ?_ ?_ | fail
     ·exact OpOk.mov rfl rfl F0 RowM.rf rfl fun ρ w r k E=>E.z 3 7 [6,0] (by kernel_rfl)
     ·exact OpOk.mov rfl rfl F1 RowM.rf rfl fun ρ w r k E=>E.n 0 (by kernel_rfl)
     ·exact OpOk.mov rfl rfl F2 RowM.rf rfl fun ρ w r k E=>E.n 4 (by kernel_rfl)
     ·refine OpOk.val rfl rfl F3 RowM.rf fun ρ w r k E hI K hK=>?_
      have e18:=E.e 18 1 (by kernel_rfl) F1
      have e19:=E.e 19 2 (by kernel_rfl) F2
      have H6:=Hj.o w (H7.o w hI.1)
      obtain⟨hg,c0,c1,c2,c3,c4,c5,c6⟩:=H6
      go_simp
      exact hK
     ·refine OpOk.val rfl rfl F4 RowM.rf fun ρ w r k E hI K hK=>?_
      have e20:=E.e 20 3 (by kernel_rfl) F3
      have H6:=Hj.o w (H7.o w hI.1)
      obtain⟨hg,c0,c1,c2,c3,c4,c5,c6⟩:=H6
      go_simp
      exact hK
     ·exact OpOk.call (args:=#[.agg #[.int .i64 p.pos,.int .i64 p.kind,.int .i64 p.n,.string ⟨p.s.toArray⟩,.slice Atp p.t.length ctp,.slice Anp p.names.length cnp,.slice App p.parts.length cpp]]) rfl rfl F5 H3.o rfl Tryz.func34 (by kernel_rfl) rfl (fun ρ w r k E=>by simp only[List.map_toArray,List.map_cons,List.map_nil,E.e 21 4 (by kernel_rfl) F4]) fun w hb=>Hu.o p H8.o.1 H8.o.2.1 H8.o.2.2 _ w (Hk.o w hb).1 (Hk.o w hb).2 (IsEx.below (H7.o w hb) _ _ Ht.o)
     ·exact OpOk.app0 (s:=17) (x:=22) (q0:=0) (q:=5) rfl rfl rfl F6 L0 L1 rfl (by exact Hd.o) (by(have h1:=H2.o;simp only[List.length_append,List.length_cons,List.length_nil]at *;omega)) H3.o F0 (by kernel_rfl) F5 (by kernel_rfl)
     ·exact OpOk.asg rfl rfl F7 F6 rfl (by kernel_rfl)
     ·exact .nil
    ·intro uq wq rq hI hF
     have f7:uq 7=rq:=((zmZ F7 (hF 7 (by decide))).2 rfl).symm
     have hBz:=hI.1
     have hOz:=hI.2.1
     rw[show([6]:List Nat).length=1 from rfl,L1]at hOz
     simp only[List.toList_toArray,fillAct,Act.put,List.setIfInBounds_toArray,List.set_cons_zero,List.set_cons_succ,f7]
     clear hI hF F0 F1 F2 F3 F4 F5 F6 F7 H1 L0 L1
     obtain⟨A9,c9,rfl⟩:=hOz.slice
     have Hn:=zh hOz
     have Hq:=zh hBz
     clear hOz hBz
     go_wp2_with fail
     go_roundg (k-(m+1))
     case measure=>have:=HI.o;omega
     case rel=>exact⟨m+1,A9,_,c9,rfl,rfl,by simp,hlt,by rw[Hw.o,if_pos hz];simpa[List.append_assoc]using Hn.o,Hq.o⟩
   ·have J3:¬(0:Int)<(m:Int):=by omega
    go_upto_region 7 with fail
    have hB0:Below B W wr:=Ha.o
    have hO0:OwnS wr B (.slice A5 n5 c5) ([[40]]++Sx.list SY 0 (xs.take m)):=HO.o
    obtain⟨Fs,hFs⟩:∃F:List (Value→World→Value→Nat→Prop),[IsF (.slice A5 n5 c5),IsF (.slice (some ⟨g,off,none⟩) k cp),IsF (.int .i64 (m:Int)),IsF (.pointer (some ⟨g,off+m * 7,none⟩)),IsF (.agg #[.int .i64 p.pos,.int .i64 p.kind,.int .i64 p.n,.string ⟨p.s.toArray⟩,.slice Atp p.t.length ctp,.slice Anp p.names.length cnp,.slice App p.parts.length cpp]),StrF (Sx.expr SY p),AppF 0,AppF 0]=F:=⟨_,rfl⟩
    obtain⟨F0,F1,F2,F3,F4,F5,F6,F7,-⟩:=zwZ hFs
    have H1:AllStay RowM Fs:=by rw[←hFs];repeat (first | exact .nil | refine .cons (by first | exact IsF.stays | exact AppF.stays | exact StrF.stays) ?_)
    obtain⟨Lf,hLf⟩:∃f:Nat→List Lx.Bytes,(fun k=>([([[40]]++Sx.list SY 0 (xs.take m)),([[40]]++Sx.list SY 0 (xs.take m))++(Sx.expr SY p)]:List (List Lx.Bytes)).getD k [])=f:=⟨_,rfl⟩
    have L0:Lf 0=([[40]]++Sx.list SY 0 (xs.take m)):=by rw[←hLf];rfl
    have L1:Lf 1=([[40]]++Sx.list SY 0 (xs.take m))++(Sx.expr SY p):=by rw[←hLf];rfl
    clear hFs hLf
    refine zqZ [6] (RowI B W (.slice A5 n5 c5) Lf) RowM Fs (.slice A5 n5 c5) (by kernel_rfl) (by kernel_rfl) (by kernel_rfl) (by kernel_rfl) (by kernel_rfl) H1 (n:=8) (by kernel_rfl) ⟨hB0,by rw[L0];exact hO0,fun _=>rfl⟩ ?_ ?_
    ·repeat' first | refine OpsOk.cons ?_ ?_ | fail
     ·exact OpOk.mov rfl rfl F0 RowM.rf rfl fun ρ w r k E=>E.z 3 7 [6,0] (by kernel_rfl)
     ·exact OpOk.mov rfl rfl F1 RowM.rf rfl fun ρ w r k E=>E.n 0 (by kernel_rfl)
     ·exact OpOk.mov rfl rfl F2 RowM.rf rfl fun ρ w r k E=>E.n 4 (by kernel_rfl)
     ·refine OpOk.val rfl rfl F3 RowM.rf fun ρ w r k E hI K hK=>?_
      have e18:=E.e 18 1 (by kernel_rfl) F1
      have e19:=E.e 19 2 (by kernel_rfl) F2
      have H6:=Hj.o w (H7.o w hI.1)
      obtain⟨hg,c0,c1,c2,c3,c4,c5,c6⟩:=H6
      go_simp
      exact hK
     ·refine OpOk.val rfl rfl F4 RowM.rf fun ρ w r k E hI K hK=>?_
      have e20:=E.e 20 3 (by kernel_rfl) F3
      have H6:=Hj.o w (H7.o w hI.1)
      obtain⟨hg,c0,c1,c2,c3,c4,c5,c6⟩:=H6
      go_simp
      exact hK
     ·exact OpOk.call (args:=#[.agg #[.int .i64 p.pos,.int .i64 p.kind,.int .i64 p.n,.string ⟨p.s.toArray⟩,.slice Atp p.t.length ctp,.slice Anp p.names.length cnp,.slice App p.parts.length cpp]]) rfl rfl F5 H3.o rfl Tryz.func34 (by kernel_rfl) rfl (fun ρ w r k E=>by simp only[List.map_toArray,List.map_cons,List.map_nil,E.e 21 4 (by kernel_rfl) F4]) fun w hb=>Hu.o p H8.o.1 H8.o.2.1 H8.o.2.2 _ w (Hk.o w hb).1 (Hk.o w hb).2 (IsEx.below (H7.o w hb) _ _ Ht.o)
     ·exact OpOk.app0 (s:=17) (x:=22) (q0:=0) (q:=5) rfl rfl rfl F6 L0 L1 rfl (by exact Hd.o) (by(have h1:=H2.o;simp only[List.length_append,List.length_cons,List.length_nil]at *;omega)) H3.o F0 (by kernel_rfl) F5 (by kernel_rfl)
     ·exact OpOk.asg rfl rfl F7 F6 rfl (by kernel_rfl)
     ·exact .nil
    ·intro uq wq rq hI hF
     have f7:uq 7=rq:=((zmZ F7 (hF 7 (by decide))).2 rfl).symm
     have hBz:=hI.1
     have hOz:=hI.2.1
     rw[show([6]:List Nat).length=1 from rfl,L1]at hOz
     simp only[List.toList_toArray,fillAct,Act.put,List.setIfInBounds_toArray,List.set_cons_zero,List.set_cons_succ,f7]
     clear hI hF F0 F1 F2 F3 F4 F5 F6 F7 H1 L0 L1
     obtain⟨A9,c9,rfl⟩:=hOz.slice
     have Hn:=zh hOz
     have Hq:=zh hBz
     clear hOz hBz
     go_wp2_with fail
     go_roundg (k-(m+1))
     case measure=>have:=HI.o;omega
     case rel=>exact⟨m+1,A9,_,c9,rfl,rfl,by simp,hlt,by rw[Hw.o,if_neg hz];simpa[List.append_assoc]using Hn.o,Hq.o⟩
  ·have J4:¬(m:Int)<(k:Int):=by omega
   have H4:xs.take m=xs:=List.take_of_length_le (by have:=HK.o;omega)
   rw[H4]at HO
   have H2:=zh (show([[40]]++Sx.list SY 0 xs).length≤50000000 by
    have h1:=Sx.list_len SY 0 xs
    have h3:=Hr.o
    simp only[List.length_append,List.length_cons,List.length_nil]
    omega)
   clear H4
   obtain⟨wa,hwa⟩:=zE (wr.alloc (.cells #[.string ⟨#[41]⟩] 9))
   have He:OwnS wa B (.slice A5 n5 c5) ([[40]]++Sx.list SY 0 xs):=by rw[←hwa];exact HO.o.below ((Below.refl _ _).alloc (Nat.le_refl _) _)
   have H9:Below B W wa:=by rw[←hwa];exact Ha.o.alloc (Nat.le_trans H3.o Ha.o.size) _
   have Hc:Str wa (.slice (some ⟨wr.heap.size,0,none⟩) 1 1) [[41]] (.slice A5 n5 c5):=by rw[←hwa];exact Str.one (heap_alloc_new wr _) (fun q hq=>(HO.o.lt q hq).2)
   have Hf:=zh He
   have H5:=zh H9
   have Hl:=zh Hc
   clear He H9 Hc
   go_wp2_with (at_builtin;refine zpZ rfl _ _ rfl rfl rfl Hf.o Hl.o (by decide) (by have:=H2.o;simp only[List.length_append,List.length_cons,List.length_nil]at *;omega) (Nat.le_trans H3.o H5.o.size) ?_;intro r5 w5 hO5 Hg;have hB5:=zzZ H5.o (Nat.le_trans H3.o H5.o.size) Hg (fun g hg=>(Hf.o.lt g hg).1);have Hh:=zh hO5;have Hp:=zh hB5;clear hO5 hB5 Hg)
   go_ret
   exact⟨_,rfl,Hh.o,Hp.o⟩
theorem told4 (n:Nat) (hn:n+1≤1000000) (ih:ToldOk n) (x:Sx.Ex) (hsz:Sx.sizeX x≤n+1) (hok:Sx.okX x) (hnum:Sx.numX x) (hkd:x.kind=4) (v:Value) (W:World) (hG:GL W) (hN:NG≤W.heap.size) (ht:IsEx W v x):ToldIs x v W:=by
 unfold ToldIs
 obtain⟨hsh,hrp⟩:=hok.shape
 obtain⟨hxn,hnp⟩:=Sx.numX_parts hnum
 have H0:=Sx.sizeX_parts x
 obtain⟨At,ct,An,cn,Ap,cp,rfl,htt,hnn,hp,hn0,hn1⟩:=ht.agg
 unfold Sx.shapeX at hsh
 simp only[Bool.and_eq_true]at hsh
 obtain⟨h1,h2,h3,h4,h5⟩:=hsh
 rw[hkd]at h3 h4 h5
 have HT:=zh (show Sx.expr SY x=[x.s]by
  rw[Sx.expr_eq,hkd]
  simp only[Int.reduceEq,Int.reduceLE,if_true,if_false,or_false,false_or,or_true,true_or,reduceIte,Nat.reduceEqDiff,and_true,true_and,and_false,false_and])
 have H2:=zh ih
 have H3:=zh (show Sx.sizeX x≤n+1∧n+1≤1000000 from⟨hsz,hn⟩)
 rw[hkd]
 obtain⟨L,B,w2,hL,hw2,hB,HX⟩:=boxed hG hN #[.int .i64 x.pos,.int .i64 4,.int .i64 x.n,.string ⟨x.s.toArray⟩,.slice At x.t.length ct,.slice An x.names.length cn,.slice Ap x.parts.length cp]
 obtain⟨x0,x1,x2,x3,x4,x5,x6⟩:=zbZ HX.o.box
 have H1:=zaZ HX.o.box
 clear hG hN  ih hsz hn ht htt hnn hp hn0 hn1 hrp hnp hok hnum h1 h2 h4 h5 hkd H0 h3
 go_enter Tryz.func34, Tryz.ntmps34
 go_wp2_with fail
 go_ret
 exact⟨.slice (some ⟨B,0,none⟩) 1 1,rfl,by rw[HT.o];exact(HX.o.o1 x.s).base_le HX.o.wb,HX.o.wx _ (HX.o.r2.alloc HX.o.bb _)⟩
theorem told5 (n:Nat) (hn:n+1≤1000000) (ih:ToldOk n) (x:Sx.Ex) (hsz:Sx.sizeX x≤n+1) (hok:Sx.okX x) (hnum:Sx.numX x) (hkd:x.kind=5) (v:Value) (W:World) (hG:GL W) (hN:NG≤W.heap.size) (ht:IsEx W v x):ToldIs x v W:=by
 unfold ToldIs
 obtain⟨hsh,hrp⟩:=hok.shape
 obtain⟨hxn,hnp⟩:=Sx.numX_parts hnum
 have H0:=Sx.sizeX_parts x
 obtain⟨At,ct,An,cn,Ap,cp,rfl,htt,hnn,hp,hn0,hn1⟩:=ht.agg
 unfold Sx.shapeX at hsh
 simp only[Bool.and_eq_true]at hsh
 obtain⟨h1,h2,h3,h4,h5⟩:=hsh
 rw[hkd]at h3 h4 h5
 have HT:=zh (show Sx.expr SY x=[[115,101,108,102]]by
  rw[Sx.expr_eq,hkd]
  simp only[Int.reduceEq,Int.reduceLE,if_true,if_false,or_false,false_or,or_true,true_or,reduceIte,Nat.reduceEqDiff,and_true,true_and,and_false,false_and])
 have H2:=zh ih
 have H3:=zh (show Sx.sizeX x≤n+1∧n+1≤1000000 from⟨hsz,hn⟩)
 rw[hkd]
 obtain⟨L,B,w2,hL,hw2,hB,HX⟩:=boxed hG hN #[.int .i64 x.pos,.int .i64 5,.int .i64 x.n,.string ⟨x.s.toArray⟩,.slice At x.t.length ct,.slice An x.names.length cn,.slice Ap x.parts.length cp]
 obtain⟨x0,x1,x2,x3,x4,x5,x6⟩:=zbZ HX.o.box
 have H1:=zaZ HX.o.box
 clear hG hN  ih hsz hn ht htt hnn hp hn0 hn1 hrp hnp hok hnum h1 h2 h4 h5 hkd H0 h3
 go_enter Tryz.func34, Tryz.ntmps34
 go_wp2_with fail
 go_ret
 exact⟨.slice (some ⟨B,0,none⟩) 1 1,rfl,by rw[HT.o];exact(HX.o.o1 [115,101,108,102]).base_le HX.o.wb,HX.o.wx _ (HX.o.r2.alloc HX.o.bb _)⟩
theorem zwdZ (n:Nat) (hn:n+1≤1000000) (ih:ToldOk n) (x:Sx.Ex) (hsz:Sx.sizeX x≤n+1) (hok:Sx.okX x) (hnum:Sx.numX x) (hkd:x.kind=3) (hx:x.n=1) (v:Value) (W:World) (hG:GL W) (hN:NG≤W.heap.size) (ht:IsEx W v x):ToldIs x v W:=by
 unfold ToldIs
 obtain⟨hsh,hrp⟩:=hok.shape
 obtain⟨hxn,hnp⟩:=Sx.numX_parts hnum
 have H0:=Sx.sizeX_parts x
 obtain⟨At,ct,An,cn,Ap,cp,rfl,htt,hnn,hp,hn0,hn1⟩:=ht.agg
 unfold Sx.shapeX at hsh
 simp only[Bool.and_eq_true]at hsh
 obtain⟨h1,h2,h3,h4,h5⟩:=hsh
 rw[hkd]at h3 h4 h5
 rw[hx]
 have HT:=zh (show Sx.expr SY x=[[116,114,117,101]]by
  rw[Sx.expr_eq,hkd]
  simp only[Int.reduceEq,Int.reduceLE,if_true,if_false,or_false,false_or,or_true,true_or,reduceIte,Nat.reduceEqDiff,and_true,true_and,and_false,false_and]
  rw[hx]
  rfl)
 have H2:=zh ih
 have H3:=zh (show Sx.sizeX x≤n+1∧n+1≤1000000 from⟨hsz,hn⟩)
 rw[hkd]
 obtain⟨L,B,w2,hL,hw2,hB,HX⟩:=boxed hG hN #[.int .i64 x.pos,.int .i64 3,.int .i64 1,.string ⟨x.s.toArray⟩,.slice At x.t.length ct,.slice An x.names.length cn,.slice Ap x.parts.length cp]
 obtain⟨x0,x1,x2,x3,x4,x5,x6⟩:=zbZ HX.o.box
 have H1:=zaZ HX.o.box
 clear hG hN  ih hsz hn ht htt hnn hp hn0 hn1 hrp hnp hok hnum h1 h2 h4 h5 hkd H0 h3 hx
 go_enter Tryz.func34, Tryz.ntmps34
 go_wp2_with fail
 go_ret
 exact⟨.slice (some ⟨B,0,none⟩) 1 1,rfl,by rw[HT.o];exact(HX.o.o1 [116,114,117,101]).base_le HX.o.wb,HX.o.wx _ (HX.o.r2.alloc HX.o.bb _)⟩
theorem zweZ (n:Nat) (hn:n+1≤1000000) (ih:ToldOk n) (x:Sx.Ex) (hsz:Sx.sizeX x≤n+1) (hok:Sx.okX x) (hnum:Sx.numX x) (hkd:x.kind=3) (hx:¬x.n=1) (v:Value) (W:World) (hG:GL W) (hN:NG≤W.heap.size) (ht:IsEx W v x):ToldIs x v W:=by
 unfold ToldIs
 obtain⟨hsh,hrp⟩:=hok.shape
 obtain⟨hxn,hnp⟩:=Sx.numX_parts hnum
 have H0:=Sx.sizeX_parts x
 obtain⟨At,ct,An,cn,Ap,cp,rfl,htt,hnn,hp,hn0,hn1⟩:=ht.agg
 unfold Sx.shapeX at hsh
 simp only[Bool.and_eq_true]at hsh
 obtain⟨h1,h2,h3,h4,h5⟩:=hsh
 rw[hkd]at h3 h4 h5
 have H3:(x.n==1)=false:=by rw[beq_eq_false_iff_ne];exact hx
 have HT:=zh (show Sx.expr SY x=[[102,97,108,115,101]]by
  rw[Sx.expr_eq,hkd]
  simp only[Int.reduceEq,Int.reduceLE,if_true,if_false,or_false,false_or,or_true,true_or,reduceIte,Nat.reduceEqDiff,and_true,true_and,and_false,false_and]
  rw[if_neg hx])
 have H2:=zh ih
 have H4:=zh (show Sx.sizeX x≤n+1∧n+1≤1000000 from⟨hsz,hn⟩)
 rw[hkd]
 obtain⟨L,B,w2,hL,hw2,hB,HX⟩:=boxed hG hN #[.int .i64 x.pos,.int .i64 3,.int .i64 x.n,.string ⟨x.s.toArray⟩,.slice At x.t.length ct,.slice An x.names.length cn,.slice Ap x.parts.length cp]
 obtain⟨x0,x1,x2,x3,x4,x5,x6⟩:=zbZ HX.o.box
 have H1:=zaZ HX.o.box
 clear hG hN  ih hsz hn ht htt hnn hp hn0 hn1 hrp hnp hok hnum h1 h2 h4 h5 hkd H0 h3 hx
 go_enter Tryz.func34, Tryz.ntmps34
 go_wp2_with fail
 go_ret
 exact⟨.slice (some ⟨B,0,none⟩) 1 1,rfl,by rw[HT.o];exact(HX.o.o1 [102,97,108,115,101]).base_le HX.o.wb,HX.o.wx _ (HX.o.r2.alloc HX.o.bb _)⟩
theorem told1 (n:Nat) (hn:n+1≤1000000) (ih:ToldOk n) (x:Sx.Ex) (hsz:Sx.sizeX x≤n+1) (hok:Sx.okX x) (hnum:Sx.numX x) (hkd:x.kind=1) (v:Value) (W:World) (hG:GL W) (hN:NG≤W.heap.size) (ht:IsEx W v x):ToldIs x v W:=by
 unfold ToldIs
 obtain⟨hsh,hrp⟩:=hok.shape
 obtain⟨hxn,hnp⟩:=Sx.numX_parts hnum
 have H1:=Sx.sizeX_parts x
 obtain⟨At,ct,An,cn,Ap,cp,rfl,htt,hnn,hp,hn0,hn1⟩:=ht.agg
 unfold Sx.shapeX at hsh
 simp only[Bool.and_eq_true]at hsh
 obtain⟨h1,h2,h3,h4,h5⟩:=hsh
 rw[hkd]at h3 h4 h5
 have h0:0≤x.n:=by
  simp only[Bool.or_eq_true,decide_eq_true_eq]at h3
  omega
 obtain⟨m,hm⟩:=Int.eq_ofNat_of_zero_le h0
 have H2:=zh (fun X (h1:GL X) (h2:NG≤X.heap.size)=>(zirZ m X (by omega) h1 h2).mono fun e w2 h=>(show e=.returned (.string ⟨(SY.digits x.n).toArray⟩)∧Below X.heap.size X w2 from⟨by rw[h.1,hm];rfl,h.2.b⟩))
 rw[hm]at H2
 have H4:=zh hm
 rw[hm]
 have HT:=zh (show Sx.expr SY x=[SY.digits x.n]by
  rw[Sx.expr_eq,hkd]
  simp only[Int.reduceEq,Int.reduceLE,if_true,if_false,or_false,false_or,or_true,true_or,reduceIte,Nat.reduceEqDiff,and_true,true_and,and_false,false_and])
 have H6:=zh ih
 have H7:=zh (show Sx.sizeX x≤n+1∧n+1≤1000000 from⟨hsz,hn⟩)
 rw[hkd]
 obtain⟨L,B,w2,hL,hw2,hB,HX⟩:=boxed hG hN #[.int .i64 x.pos,.int .i64 1,.int .i64 ((m:Nat):Int),.string ⟨x.s.toArray⟩,.slice At x.t.length ct,.slice An x.names.length cn,.slice Ap x.parts.length cp]
 obtain⟨x0,x1,x2,x3,x4,x5,x6⟩:=zbZ HX.o.box
 have H5:=zaZ HX.o.box
 clear hG hN  ih hsz hn ht htt hnn hp hn0 hn1 hrp hnp hok hnum h1 h2 h4 h5 hkd H1 h0 hm h3 hxn
 go_enter Tryz.func34, Tryz.ntmps34
 go_wp2_with (go_at_call 76;refine(H2.o w2 (HX.o.gx w2 HX.o.r2).1 (HX.o.gx w2 HX.o.r2).2).mono ?_;rintro e w3 ⟨rfl,H3⟩;have H0:=zh (HX.o.r2.trans (H3.mono HX.o.bb));clear H3)
 go_ret
 refine⟨_,rfl,?_,HX.o.wx _ (H0.o.alloc (Nat.le_trans HX.o.bb H0.o.size) _)⟩
 rw[HT.o,H4.o]
 exact(OwnS.one (heap_alloc_new w3 _) (Nat.le_trans HX.o.bb H0.o.size)).base_le HX.o.wb
theorem told2 (n:Nat) (hn:n+1≤1000000) (ih:ToldOk n) (x:Sx.Ex) (hsz:Sx.sizeX x≤n+1) (hok:Sx.okX x) (hnum:Sx.numX x) (hkd:x.kind=2) (v:Value) (W:World) (hG:GL W) (hN:NG≤W.heap.size) (ht:IsEx W v x):ToldIs x v W:=by
 unfold ToldIs
 obtain⟨hsh,hrp⟩:=hok.shape
 obtain⟨hxn,hnp⟩:=Sx.numX_parts hnum
 have H0:=Sx.sizeX_parts x
 obtain⟨At,ct,An,cn,Ap,cp,rfl,htt,hnn,hp,hn0,hn1⟩:=ht.agg
 unfold Sx.shapeX at hsh
 simp only[Bool.and_eq_true]at hsh
 obtain⟨h1,h2,h3,h4,h5⟩:=hsh
 rw[hkd]at h3 h4 h5
 have HQ:=zh (fun X=>(zguZ ⟨x.s.toArray⟩ X (by show x.s.toArray.size≤4000000;simp;omega)).mono fun e w2 h=>(show e=.returned (.string ⟨(SY.quote x.s).toArray⟩)∧X=w2 from⟨by rw[h.1];simp[SY],h.2.symm⟩))
 have HT:=zh (show Sx.expr SY x=[SY.quote x.s]by
  rw[Sx.expr_eq,hkd]
  simp only[Int.reduceEq,Int.reduceLE,if_true,if_false,or_false,false_or,or_true,true_or,reduceIte,Nat.reduceEqDiff,and_true,true_and,and_false,false_and])
 have H2:=zh ih
 have H3:=zh (show Sx.sizeX x≤n+1∧n+1≤1000000 from⟨hsz,hn⟩)
 rw[hkd]
 obtain⟨L,B,w2,hL,hw2,hB,HX⟩:=boxed hG hN #[.int .i64 x.pos,.int .i64 2,.int .i64 x.n,.string ⟨x.s.toArray⟩,.slice At x.t.length ct,.slice An x.names.length cn,.slice Ap x.parts.length cp]
 obtain⟨x0,x1,x2,x3,x4,x5,x6⟩:=zbZ HX.o.box
 have H1:=zaZ HX.o.box
 clear hG hN  ih hsz hn ht htt hnn hp hn0 hn1 hrp hnp hok hnum h1 h2 h4 h5 hkd H0 h3
 go_enter Tryz.func34, Tryz.ntmps34
 go_wp2_with (go_at_call 77;refine(HQ.o w2).mono ?_;rintro e w3 ⟨rfl,rfl⟩)
 go_ret
 exact⟨.slice (some ⟨B,0,none⟩) 1 1,rfl,by rw[HT.o];exact(HX.o.o1 (SY.quote x.s)).base_le HX.o.wb,HX.o.wx _ (HX.o.r2.alloc HX.o.bb _)⟩
theorem told6 (n:Nat) (hn:n+1≤1000000) (ih:ToldOk n) (x:Sx.Ex) (hsz:Sx.sizeX x≤n+1) (hok:Sx.okX x) (hnum:Sx.numX x) (hkd:x.kind=6) (v:Value) (W:World) (hG:GL W) (hN:NG≤W.heap.size) (ht:IsEx W v x):ToldIs x v W:=by
 unfold ToldIs
 obtain⟨hsh,hrp⟩:=hok.shape
 obtain⟨hxn,hnp⟩:=Sx.numX_parts hnum
 have H6:=Sx.sizeX_parts x
 obtain⟨At,ct,An,cn,Ap,cp,rfl,htt,hnn,hp,hn0,hn1⟩:=ht.agg
 unfold Sx.shapeX at hsh
 simp only[Bool.and_eq_true]at hsh
 obtain⟨h1,h2,h3,h4,h5⟩:=hsh
 rw[hkd]at h3 h4 h5
 simp only[true_or,or_true,if_true,Bool.and_eq_true,beq_iff_eq]at h4
 have H1:0<x.t.length:=by omega
 obtain⟨gt,offt,At1,ct1,Ae1,ce1,Aq1,cq1,rfl,htq,hct⟩:=htt.spot 0 H1
 obtain⟨q,hqe⟩:=zE (x.t[0]'H1)
 have H0:q∈x.t:=by rw[←hqe];exact List.getElem_mem H1
 rw[hqe]at htq hct
 rw[Nat.zero_mul,Nat.add_zero]at hct
 have Ha:=zh htq
 have H7:=zh hct
 have H3:=Sx.rights_mem h4.2 q H0
 have H9:=Sx.size_mem H0
 have H5:=zh (show Sx.size q≤1000000∧(∃d,Sx.rightT NM d q=true)∧0<(Sx.typ q).length from⟨by omega,⟨64,H3⟩,Sx.typ_pos H3⟩)
 have Hb:(0:Int)<(x.t.length:Int):=by omega
 have H4:=zh (show(Sx.typ q).length≤50000000 by have:=Sx.typ_len q;omega)
 have HT:=zh (show Sx.expr SY x=[[110,105,108]]++Sx.typ q by
  rw[Sx.expr_eq,hkd]
  simp only[Int.reduceEq,Int.reduceLE,if_true,if_false,or_false,false_or,or_true,true_or,reduceIte,Nat.reduceEqDiff,and_true,true_and,and_false,false_and]
  rw[Sx.typL_head H1,hqe]
  rfl)
 have Hd:=zh ih
 have Hf:=zh (show Sx.sizeX x≤n+1∧n+1≤1000000 from⟨hsz,hn⟩)
 rw[hkd]
 obtain⟨L,B,w2,hL,hw2,hB,HX⟩:=boxed hG hN #[.int .i64 x.pos,.int .i64 6,.int .i64 x.n,.string ⟨x.s.toArray⟩,.slice (some ⟨gt,offt,none⟩) x.t.length ct,.slice An x.names.length cn,.slice Ap x.parts.length cp]
 obtain⟨x0,x1,x2,x3,x4,x5,x6⟩:=zbZ HX.o.box
 have He:=zaZ HX.o.box
 clear hG hN  ih hsz hn ht htt hnn hp hn0 hn1 hrp hnp hok hnum h1 h2 h4 h5 hkd H6 h3 hqe htq hct H0 H3 H9
 go_enter Tryz.func34, Tryz.ntmps34
 go_upto_region 15 with fail
 clear x0 x1 x2 x3 x4 x5 x6
 have hB0:Below B w2 w2:=HX.o.r2
 have hO0:OwnS w2 B (.slice none 0 0) ([]):=World.ownsRow_nil _ _ _ _
 obtain⟨Fs,hFs⟩:∃F:List (Value→World→Value→Nat→Prop),[AppF 0,IsF (.pointer (some ⟨L,4,none⟩)),IsF (.slice (some ⟨gt,offt,none⟩) x.t.length ct),IsF (.pointer (some ⟨gt,offt,none⟩)),IsF (.agg #[.int .i64 q.kind,.string ⟨q.name.toArray⟩,.slice At1 q.names.length ct1,.slice Ae1 q.embeds.length ce1,.slice Aq1 q.parts.length cq1]),StrF (Sx.typ q),AppF 1,AppF 1]=F:=⟨_,rfl⟩
 obtain⟨F0,F1,F2,F3,F4,F5,F6,F7,-⟩:=zwZ hFs
 have H2:AllStay RowM Fs:=by rw[←hFs];repeat (first | exact .nil | refine .cons (by first | exact IsF.stays | exact AppF.stays | exact StrF.stays) ?_)
 obtain⟨Lf,hLf⟩:∃f:Nat→List Lx.Bytes,(fun k=>([[],[[110,105,108]],[[110,105,108]]++(Sx.typ q)]:List (List Lx.Bytes)).getD k [])=f:=⟨_,rfl⟩
 have L0:Lf 0=[]:=by rw[←hLf];rfl
 have L1:Lf 1=[[110,105,108]]:=by rw[←hLf];rfl
 have L2:Lf 2=[[110,105,108]]++(Sx.typ q):=by rw[←hLf];rfl
 clear hFs hLf
 refine zqZ [0,6] (RowI B w2 (.slice none 0 0) Lf) RowM Fs (.slice none 0 0) (by kernel_rfl) (by kernel_rfl) (by kernel_rfl) (by kernel_rfl) (by kernel_rfl) H2 (n:=8) (by kernel_rfl) ⟨hB0,by rw[L0];exact hO0,fun _=>rfl⟩ ?_ ?_
 ·repeat' first | refine OpsOk.cons ?_ ?_ | fail
  ·refine OpOk.hone rfl rfl F0 HX.o.bb L1 (by simp[maxLen]) fun ρ w r k E hI K hK=>?_
   have c:=E.c
   go_simp
   exact hK _ rfl
  ·exact OpOk.fldB HX.o rfl rfl F1 rfl rfl fun ρ w r k E=>E.n 1 (by kernel_rfl)
  ·exact OpOk.ldB HX.o rfl rfl F2 F1 rfl rfl (by kernel_rfl) rfl
  ·refine OpOk.val rfl rfl F3 RowM.rf fun ρ w r k E hI K hK=>?_
   have e41:=E.e 41 2 (by kernel_rfl) F2
   have c:=E.c
   obtain⟨hg,c0,c1,c2,c3,c4⟩:=H7.o w (HX.o.wx w hI.1)
   go_simp
   exact hK
  ·refine OpOk.val rfl rfl F4 RowM.rf fun ρ w r k E hI K hK=>?_
   have e42:=E.e 42 3 (by kernel_rfl) F3
   obtain⟨hg,c0,c1,c2,c3,c4⟩:=H7.o w (HX.o.wx w hI.1)
   go_simp
   exact hK
  ·exact OpOk.call rfl rfl F5 HX.o.bb rfl Tryz.func28 (by kernel_rfl) rfl (fun ρ w r k E=>by simp only[List.map_toArray,List.map_cons,List.map_nil,E.e 43 4 (by kernel_rfl) F4]) fun w hb=>zkvZ 1000000 (Nat.le_refl _) q H5.o.1 H5.o.2.1 _ w (IsTy.below (HX.o.wx w hb) _ _ Ha.o)
  ·exact OpOk.appN (j:=0) (s:=39) (x:=44) (p:=0) (q:=5) rfl rfl rfl F6 L1 L2 rfl (by exact H5.o.2.2) (by(have h1:=H4.o;simp only[List.length_append,List.length_cons,List.length_nil]at *;omega)) HX.o.bb F0 (by kernel_rfl) F5 (by kernel_rfl)
  ·exact OpOk.asg rfl rfl F7 F6 rfl (by kernel_rfl)
  ·exact .nil
 ·intro uq wq rq hI hF
  have f7:uq 7=rq:=((zmZ F7 (hF 7 (by decide))).2 rfl).symm
  have hBz:=hI.1
  have hOz:=hI.2.1
  rw[show([0,6]:List Nat).length=2 from rfl,L2]at hOz
  simp only[List.toList_toArray,fillAct,Act.put,List.setIfInBounds_toArray,List.set_cons_zero,List.set_cons_succ,f7]
  clear hI hF F0 F1 F2 F3 F4 F5 F6 F7 H2 L0 L1 L2
  have H8:=zh hOz
  have Hc:=zh hBz
  clear hOz hBz
  go_wp2_with fail
  go_ret
  exact⟨_,rfl,by rw[HT.o];first | exact H8.o.base_le HX.o.wb | simpa[List.append_assoc]using H8.o.base_le HX.o.wb,HX.o.wx _ Hc.o⟩
theorem told9 (n:Nat) (hn:n+1≤1000000) (ih:ToldOk n) (x:Sx.Ex) (hsz:Sx.sizeX x≤n+1) (hok:Sx.okX x) (hnum:Sx.numX x) (hkd:x.kind=9) (v:Value) (W:World) (hG:GL W) (hN:NG≤W.heap.size) (ht:IsEx W v x):ToldIs x v W:=by
 unfold ToldIs
 obtain⟨hsh,hrp⟩:=hok.shape
 obtain⟨hxn,hnp⟩:=Sx.numX_parts hnum
 have H7:=Sx.sizeX_parts x
 obtain⟨At,ct,An,cn,Ap,cp,rfl,htt,hnn,hp,hn0,hn1⟩:=ht.agg
 unfold Sx.shapeX at hsh
 simp only[Bool.and_eq_true]at hsh
 obtain⟨h1,h2,h3,h4,h5⟩:=hsh
 rw[hkd]at h3 h4 h5
 have Ha:x.parts.length=1:=by simp at h5;omega
 have H2:0<x.parts.length:=by omega
 obtain⟨g,off,Atp,ctp,Anp,cnp,App,cpp,rfl,hty0,hc0⟩:=hp.spot 0 H2
 obtain⟨p,hpe⟩:=zE (x.parts[0]'H2)
 have H0:p∈x.parts:=by rw[←hpe];exact List.getElem_mem H2
 rw[hpe]at hty0 hc0
 rw[Nat.zero_mul,Nat.add_zero]at hc0
 have H4:=zh hty0
 have H8:=zh hc0
 have H3:=Sx.sizeX_mem H0
 have H6:=zh (show Sx.sizeX p≤n∧Sx.okX p∧Sx.numX p from⟨by omega,hrp p H0,hnp p H0⟩)
 have Hb:(0:Int)<(x.parts.length:Int):=by omega
 have H5:=zh (show(Sx.part 7 p).length≤50000000 by have:=Sx.part_len 7 p;omega)
 have HT:=zh (show Sx.expr SY x=Sx.part 7 p++[[46],x.s]by
  rw[Sx.expr_eq,hkd]
  simp only[Int.reduceEq,Int.reduceLE,if_true,if_false,or_false,false_or,or_true,true_or,reduceIte,Nat.reduceEqDiff,and_true,true_and,and_false,false_and]
  rw[Sx.first_head 7 H2,hpe])
 have Hc:=zh ih
 have He:=zh (show Sx.sizeX x≤n+1∧n+1≤1000000 from⟨hsz,hn⟩)
 rw[hkd]
 obtain⟨L,B,w2,hL,hw2,hB,HX⟩:=boxed hG hN #[.int .i64 x.pos,.int .i64 9,.int .i64 x.n,.string ⟨x.s.toArray⟩,.slice At x.t.length ct,.slice An x.names.length cn,.slice (some ⟨g,off,none⟩) x.parts.length cp]
 obtain⟨x0,x1,x2,x3,x4,x5,x6⟩:=zbZ HX.o.box
 have Hf:=zaZ HX.o.box
 clear hG hN  ih hsz hn ht htt hnn hp hn0 hn1 hrp hnp hok hnum h1 h2 h4 h5 hkd H7 h3 hpe Ha hty0 hc0 H0 H3
 go_enter Tryz.func34, Tryz.ntmps34
 go_upto_region 30 with fail
 clear x0 x1 x2 x3 x4 x5 x6
 have hB0:Below B w2 w2.drew:=(HX.o.r2).drew
 have hO0:OwnS w2.drew B (.slice none 0 0) ([]):=World.ownsRow_nil _ _ _ _
 obtain⟨Fs,hFs⟩:∃F:List (Value→World→Value→Nat→Prop),[IsF (.pointer (some ⟨L,6,none⟩)),IsF (.slice (some ⟨g,off,none⟩) x.parts.length cp),IsF (.pointer (some ⟨g,off,none⟩)),IsF (.agg #[.int .i64 p.pos,.int .i64 p.kind,.int .i64 p.n,.string ⟨p.s.toArray⟩,.slice Atp p.t.length ctp,.slice Anp p.names.length cnp,.slice App p.parts.length cpp]),AppF 0,IsF (.pointer (some ⟨L,3,none⟩)),IsF (.string ⟨x.s.toArray⟩),StrF [[46],x.s],AppF 1,AppF 1]=F:=⟨_,rfl⟩
 obtain⟨F0,F1,F2,F3,F4,F5,F6,F7,F8,F9,-⟩:=zwZ hFs
 have H1:AllStay RowM Fs:=by rw[←hFs];repeat (first | exact .nil | refine .cons (by first | exact IsF.stays | exact AppF.stays | exact StrF.stays) ?_)
 obtain⟨Lf,hLf⟩:∃f:Nat→List Lx.Bytes,(fun k=>([[],(Sx.part 7 p),(Sx.part 7 p)++[[46],x.s]]:List (List Lx.Bytes)).getD k [])=f:=⟨_,rfl⟩
 have L0:Lf 0=[]:=by rw[←hLf];rfl
 have L1:Lf 1=(Sx.part 7 p):=by rw[←hLf];rfl
 have L2:Lf 2=(Sx.part 7 p)++[[46],x.s]:=by rw[←hLf];rfl
 clear hFs hLf
 refine zoZ (by kernel_rfl) [4,8] (RowI B w2 (.slice none 0 0) Lf) RowM Fs (.slice none 0 0) (by kernel_rfl) (by kernel_rfl) (by kernel_rfl) (by kernel_rfl) (by kernel_rfl) H1 (n:=10) (by kernel_rfl) ⟨hB0,by rw[L0];exact hO0,fun _=>rfl⟩ ?_ ?_
 ·repeat' first | refine OpsOk.cons ?_ ?_ | fail
  ·exact OpOk.fldB HX.o rfl rfl F0 rfl rfl fun ρ w r k E=>E.n 1 (by kernel_rfl)
  ·exact OpOk.ldB HX.o rfl rfl F1 F0 rfl rfl (by kernel_rfl) rfl
  ·refine OpOk.val rfl rfl F2 RowM.rf fun ρ w r k E hI K hK=>?_
   have e93:=E.e 93 1 (by kernel_rfl) F1
   have c:=E.c
   obtain⟨hg,c0,c1,c2,c3,c4,c5,c6⟩:=H8.o w (HX.o.wx w hI.1)
   go_simp
   exact hK
  ·refine OpOk.val rfl rfl F3 RowM.rf fun ρ w r k E hI K hK=>?_
   have e94:=E.e 94 2 (by kernel_rfl) F2
   obtain⟨hg,c0,c1,c2,c3,c4,c5,c6⟩:=H8.o w (HX.o.wx w hI.1)
   go_simp
   exact hK
  ·exact OpOk.hcall rfl rfl F4 HX.o.bb L1 rfl Tryz.func78 (by kernel_rfl) rfl (fun ρ w r k E=>by simp only[List.map_toArray,List.map_cons,List.map_nil,E.e 95 3 (by kernel_rfl) F3,E.c];rfl) fun w hb=>zcbZ n (by have:=He.o;omega) Hc.o p H6.o.1 H6.o.2.1 H6.o.2.2 7 (by omega) _ w (HX.o.gx w hb).1 (HX.o.gx w hb).2 (IsEx.below (HX.o.wx w hb) _ _ H4.o)
  ·exact OpOk.fldB HX.o rfl rfl F5 rfl rfl fun ρ w r k E=>E.n 1 (by kernel_rfl)
  ·exact OpOk.ldB HX.o rfl rfl F6 F5 rfl rfl (by kernel_rfl) rfl
  ·refine OpOk.one rfl rfl F7 HX.o.bb fun ρ w r k E hI K hK=>?_
   have e98:=E.e 98 6 (by kernel_rfl) F6
   have c:=E.c
   go_simp
   exact hK _ rfl
  ·exact OpOk.appN (j:=0) (s:=96) (x:=99) (p:=4) (q:=7) rfl rfl rfl F8 L1 L2 rfl (by simp) (by(have h1:=H5.o;simp only[List.length_append,List.length_cons,List.length_nil]at *;omega)) HX.o.bb F4 (by kernel_rfl) F7 (by kernel_rfl)
  ·exact OpOk.asg rfl rfl F9 F8 rfl (by kernel_rfl)
  ·exact .nil
 ·intro uq wq rq hI hF
  have f9:uq 9=rq:=((zmZ F9 (hF 9 (by decide))).2 rfl).symm
  have hBz:=hI.1
  have hOz:=hI.2.1
  rw[show([4,8]:List Nat).length=2 from rfl,L2]at hOz
  simp only[List.toList_toArray,fillAct,Act.put,List.setIfInBounds_toArray,List.set_cons_zero,List.set_cons_succ,f9]
  clear hI hF F0 F1 F2 F3 F4 F5 F6 F7 F8 F9 H1 L0 L1 L2
  have H9:=zh hOz
  have Hd:=zh hBz
  clear hOz hBz
  go_wp2_with fail
  go_ret
  exact⟨_,rfl,by rw[HT.o];first | exact H9.o.base_le HX.o.wb | simpa[List.append_assoc]using H9.o.base_le HX.o.wb,HX.o.wx _ Hd.o⟩
theorem zwfZ (n:Nat) (hn:n+1≤1000000) (ih:ToldOk n) (x:Sx.Ex) (hsz:Sx.sizeX x≤n+1) (hok:Sx.okX x) (hnum:Sx.numX x) (hkd:x.kind=10) (v:Value) (W:World) (hG:GL W) (hN:NG≤W.heap.size) (ht:IsEx W v x):ToldIs x v W:=by
 unfold ToldIs
 obtain⟨hsh,hrp⟩:=hok.shape
 obtain⟨hxn,hnp⟩:=Sx.numX_parts hnum
 have Hc:=Sx.sizeX_parts x
 obtain⟨At,ct,An,cn,Ap,cp,rfl,htt,hnn,hp,hn0,hn1⟩:=ht.agg
 unfold Sx.shapeX at hsh
 simp only[Bool.and_eq_true]at hsh
 obtain⟨h1,h2,h3,h4,h5⟩:=hsh
 rw[hkd]at h3 h4 h5
 have Hj:1≤x.parts.length:=by simp at h5;omega
 have H2:0<x.parts.length:=by omega
 obtain⟨g,off,Atp,ctp,Anp,cnp,App,cpp,rfl,hty0,hc0⟩:=hp.spot 0 H2
 obtain⟨p,hpe⟩:=zE (x.parts[0]'H2)
 have H0:p∈x.parts:=by rw[←hpe];exact List.getElem_mem H2
 rw[hpe]at hty0 hc0
 rw[Nat.zero_mul,Nat.add_zero]at hc0
 have H9:=zh hty0
 have Hd:=zh hc0
 have H5:=Sx.sizeX_mem H0
 have Hb:=zh (show Sx.sizeX p≤n∧Sx.okX p∧Sx.numX p from⟨by omega,hrp p H0,hnp p H0⟩)
 have Hk:(0:Int)<(x.parts.length:Int):=by omega
 have H4:=zh (show(Sx.part 7 p).length≤20000000 by have:=Sx.part_len 7 p;omega)
 obtain⟨V,hV⟩:=zE (sliced (some ⟨g,off,none⟩) 1 x.parts.length cp 7)
 have H6:∀w,(Instr.slice 37 (.slice (some ⟨g,off,none⟩) x.parts.length cp) (some (.int .i64 1)) none none).run Tryz.prog w=.ok V w:=fun w=>by rw[zeqZ _ _ _ _ (by omega),hV]
 have Hh:ExRow W V x.parts.tail:=by rw[←hV];exact hp.tail H2
 have Ha:∀y∈x.parts.tail,y∈x.parts:=fun y hy=>List.mem_of_mem_tail hy
 have Hl:Sx.sizeXs x.parts.tail≤Sx.sizeXs x.parts:=by
  generalize x.parts=ll
  cases ll with
  | nil=>exact Nat.le_refl _
  | cons y l=>rw[List.tail_cons,Sx.sizeXs];omega
 have H3:=zh (show Sx.sizeXs x.parts.tail≤n∧(∀y∈x.parts.tail,Sx.okX y)∧(∀y∈x.parts.tail,Sx.numX y)∧ExRow W V x.parts.tail from⟨by omega,fun y hy=>hrp y (Ha y hy),fun y hy=>hnp y (Ha y hy),Hh⟩)
 have H8:=zh (show(Sx.listed x.parts.tail).length≤20000000 by
  unfold Sx.listed
  have:=Sx.list_len SY 0 x.parts.tail
  simp only[List.length_append,List.length_cons,List.length_nil]
  omega)
 have He:=zh (show 0<(Sx.listed x.parts.tail).length by unfold Sx.listed;exact zbgZ (Nat.succ_pos _))
 have H7:=Sx.args_tail H2
 obtain⟨tl,htl⟩:=zE (x.parts.tail)
 rw[htl]at H3 H8 He H7
 have HT:=zh (show Sx.expr SY x=Sx.part 7 p++[[46],x.s]++Sx.listed tl by
  rw[Sx.expr_eq,hkd]
  simp only[Int.reduceEq,Int.reduceLE,if_true,if_false,or_false,false_or,or_true,true_or,reduceIte,Nat.reduceEqDiff,and_true,true_and,and_false,false_and]
  rw[Sx.first_head 7 H2,hpe,H7])
 have Hf:=zh ih
 have Hi:=zh (show Sx.sizeX x≤n+1∧n+1≤1000000 from⟨hsz,hn⟩)
 rw[hkd]
 obtain⟨L,B,w2,hL,hw2,hB,HX⟩:=boxed hG hN #[.int .i64 x.pos,.int .i64 10,.int .i64 x.n,.string ⟨x.s.toArray⟩,.slice At x.t.length ct,.slice An x.names.length cn,.slice (some ⟨g,off,none⟩) x.parts.length cp]
 obtain⟨x0,x1,x2,x3,x4,x5,x6⟩:=zbZ HX.o.box
 have Hn:=zaZ HX.o.box
 clear hG hN  ih hsz hn ht htt hnn hp hn0 hn1 hrp hnp hok hnum h1 h2 h4 h5 hkd Hc h3 hpe Hj hty0 hc0 H0 H5 hV Hh Ha Hl htl H7
 go_enter Tryz.func34, Tryz.ntmps34
 go_upto_region 32 with fail
 clear x0 x1 x2 x3 x4 x5 x6
 have hB0:Below B w2 w2.drew:=(HX.o.r2).drew
 have hO0:OwnS w2.drew B (.slice none 0 0) ([]):=World.ownsRow_nil _ _ _ _
 obtain⟨Fs,hFs⟩:∃F:List (Value→World→Value→Nat→Prop),[IsF (.pointer (some ⟨L,6,none⟩)),IsF (.slice (some ⟨g,off,none⟩) x.parts.length cp),IsF (.pointer (some ⟨g,off,none⟩)),IsF (.agg #[.int .i64 p.pos,.int .i64 p.kind,.int .i64 p.n,.string ⟨p.s.toArray⟩,.slice Atp p.t.length ctp,.slice Anp p.names.length cnp,.slice App p.parts.length cpp]),AppF 0,IsF (.pointer (some ⟨L,3,none⟩)),IsF (.string ⟨x.s.toArray⟩),StrF [[46],x.s],AppF 1,IsF (.pointer (some ⟨L,6,none⟩)),IsF (.slice (some ⟨g,off,none⟩) x.parts.length cp),IsF (V),StrF (Sx.listed tl),AppF 2,AppF 2]=F:=⟨_,rfl⟩
 obtain⟨F0,F1,F2,F3,F4,F5,F6,F7,F8,F9,F10,F11,F12,F13,F14,-⟩:=zwZ hFs
 have H1:AllStay RowM Fs:=by rw[←hFs];repeat (first | exact .nil | refine .cons (by first | exact IsF.stays | exact AppF.stays | exact StrF.stays) ?_)
 obtain⟨Lf,hLf⟩:∃f:Nat→List Lx.Bytes,(fun k=>([[],(Sx.part 7 p),(Sx.part 7 p)++[[46],x.s],(Sx.part 7 p)++[[46],x.s]++(Sx.listed tl)]:List (List Lx.Bytes)).getD k [])=f:=⟨_,rfl⟩
 have L0:Lf 0=[]:=by rw[←hLf];rfl
 have L1:Lf 1=(Sx.part 7 p):=by rw[←hLf];rfl
 have L2:Lf 2=(Sx.part 7 p)++[[46],x.s]:=by rw[←hLf];rfl
 have L3:Lf 3=(Sx.part 7 p)++[[46],x.s]++(Sx.listed tl):=by rw[←hLf];rfl
 clear hFs hLf
 refine zoZ (by kernel_rfl) [4,8,13] (RowI B w2 (.slice none 0 0) Lf) RowM Fs (.slice none 0 0) (by kernel_rfl) (by kernel_rfl) (by kernel_rfl) (by kernel_rfl) (by kernel_rfl) H1 (n:=15) (by kernel_rfl) ⟨hB0,by rw[L0];exact hO0,fun _=>rfl⟩ ?_ ?_
 ·repeat' first | refine OpsOk.cons ?_ ?_ | fail
  ·exact OpOk.fldB HX.o rfl rfl F0 rfl rfl fun ρ w r k E=>E.n 1 (by kernel_rfl)
  ·exact OpOk.ldB HX.o rfl rfl F1 F0 rfl rfl (by kernel_rfl) rfl
  ·refine OpOk.val rfl rfl F2 RowM.rf fun ρ w r k E hI K hK=>?_
   have e104:=E.e 104 1 (by kernel_rfl) F1
   have c:=E.c
   obtain⟨hg,c0,c1,c2,c3,c4,c5,c6⟩:=Hd.o w (HX.o.wx w hI.1)
   go_simp
   exact hK
  ·refine OpOk.val rfl rfl F3 RowM.rf fun ρ w r k E hI K hK=>?_
   have e105:=E.e 105 2 (by kernel_rfl) F2
   obtain⟨hg,c0,c1,c2,c3,c4,c5,c6⟩:=Hd.o w (HX.o.wx w hI.1)
   go_simp
   exact hK
  ·exact OpOk.hcall rfl rfl F4 HX.o.bb L1 rfl Tryz.func78 (by kernel_rfl) rfl (fun ρ w r k E=>by simp only[List.map_toArray,List.map_cons,List.map_nil,E.e 106 3 (by kernel_rfl) F3,E.c];rfl) fun w hb=>zcbZ n (by have:=Hi.o;omega) Hf.o p Hb.o.1 Hb.o.2.1 Hb.o.2.2 7 (by omega) _ w (HX.o.gx w hb).1 (HX.o.gx w hb).2 (IsEx.below (HX.o.wx w hb) _ _ H9.o)
  ·exact OpOk.fldB HX.o rfl rfl F5 rfl rfl fun ρ w r k E=>E.n 1 (by kernel_rfl)
  ·exact OpOk.ldB HX.o rfl rfl F6 F5 rfl rfl (by kernel_rfl) rfl
  ·refine OpOk.one rfl rfl F7 HX.o.bb fun ρ w r k E hI K hK=>?_
   have e109:=E.e 109 6 (by kernel_rfl) F6
   have c:=E.c
   go_simp
   exact hK _ rfl
  ·exact OpOk.appN (j:=0) (s:=107) (x:=110) (p:=4) (q:=7) rfl rfl rfl F8 L1 L2 rfl (by simp) (by(have h1:=H4.o;have h2:=H8.o;(try simp only[List.length_append,List.length_cons,List.length_nil]at *);omega)) HX.o.bb F4 (by kernel_rfl) F7 (by kernel_rfl)
  ·exact OpOk.fldB HX.o rfl rfl F9 rfl rfl fun ρ w r k E=>E.n 1 (by kernel_rfl)
  ·exact OpOk.ldB HX.o rfl rfl F10 F9 rfl rfl (by kernel_rfl) rfl
  ·refine OpOk.val rfl rfl F11 RowM.rf fun ρ w r k E hI K hK=>?_
   have e113:=E.e 113 10 (by kernel_rfl) F10
   have c:=E.c
   have hr:=H6 w
   go_simp
   exact hK
  ·exact OpOk.call rfl rfl F12 HX.o.bb rfl Tryz.func79 (by kernel_rfl) rfl (fun ρ w r k E=>by simp only[List.map_toArray,List.map_cons,List.map_nil,E.e 114 11 (by kernel_rfl) F11]) fun w hb=>zgwZ n (by have:=Hi.o;omega) Hf.o tl H3.o.1 H3.o.2.1 H3.o.2.2.1 _ w (HX.o.gx w hb).1 (HX.o.gx w hb).2 (H3.o.2.2.2.below (HX.o.wx w hb))
  ·exact OpOk.appN (j:=1) (s:=111) (x:=115) (p:=8) (q:=12) rfl rfl rfl F13 L2 L3 rfl (by exact He.o) (by(have h1:=H4.o;have h2:=H8.o;(try simp only[List.length_append,List.length_cons,List.length_nil]at *);omega)) HX.o.bb F8 (by kernel_rfl) F12 (by kernel_rfl)
  ·exact OpOk.asg rfl rfl F14 F13 rfl (by kernel_rfl)
  ·exact .nil
 ·intro uq wq rq hI hF
  have f14:uq 14=rq:=((zmZ F14 (hF 14 (by decide))).2 rfl).symm
  have hBz:=hI.1
  have hOz:=hI.2.1
  rw[show([4,8,13]:List Nat).length=3 from rfl,L3]at hOz
  simp only[List.toList_toArray,fillAct,Act.put,List.setIfInBounds_toArray,List.set_cons_zero,List.set_cons_succ,f14]
  clear hI hF F0 F1 F2 F3 F4 F5 F6 F7 F8 F9 F10 F11 F12 F13 F14 H1 L0 L1 L2 L3
  have Hg:=zh hOz
  have Hm:=zh hBz
  clear hOz hBz
  go_wp2_with fail
  go_ret
  exact⟨_,rfl,by rw[HT.o];first | exact Hg.o.base_le HX.o.wb | simpa[List.append_assoc]using Hg.o.base_le HX.o.wb,HX.o.wx _ Hm.o⟩
theorem zwgZ (n:Nat) (hn:n+1≤1000000) (ih:ToldOk n) (x:Sx.Ex) (hsz:Sx.sizeX x≤n+1) (hok:Sx.okX x) (hnum:Sx.numX x) (hkd:x.kind=12) (v:Value) (W:World) (hG:GL W) (hN:NG≤W.heap.size) (ht:IsEx W v x):ToldIs x v W:=by
 unfold ToldIs
 obtain⟨hsh,hrp⟩:=hok.shape
 obtain⟨hxn,hnp⟩:=Sx.numX_parts hnum
 have Hb:=Sx.sizeX_parts x
 obtain⟨At,ct,An,cn,Ap,cp,rfl,htt,hnn,hp,hn0,hn1⟩:=ht.agg
 unfold Sx.shapeX at hsh
 simp only[Bool.and_eq_true]at hsh
 obtain⟨h1,h2,h3,h4,h5⟩:=hsh
 rw[hkd]at h3 h4 h5
 have Hf:x.parts.length=1:=by simp at h5;omega
 have H5:0<x.parts.length:=by omega
 obtain⟨g,off,Atp,ctp,Anp,cnp,App,cpp,rfl,hty0,hc0⟩:=hp.spot 0 H5
 obtain⟨p,hpe⟩:=zE (x.parts[0]'H5)
 have H0:p∈x.parts:=by rw[←hpe];exact List.getElem_mem H5
 rw[hpe]at hty0 hc0
 rw[Nat.zero_mul,Nat.add_zero]at hc0
 have H8:=zh hty0
 have Hc:=zh hc0
 have H7:=Sx.sizeX_mem H0
 have Ha:=zh (show Sx.sizeX p≤n∧Sx.okX p∧Sx.numX p from⟨by omega,hrp p H0,hnp p H0⟩)
 have Hg:(0:Int)<(x.parts.length:Int):=by omega
 simp only[true_or,or_true,if_true,Bool.and_eq_true,beq_iff_eq]at h4
 have H2:0<x.t.length:=by omega
 obtain⟨gt,offt,At1,ct1,Ae1,ce1,Aq1,cq1,rfl,htq,hct⟩:=htt.spot 0 H2
 obtain⟨q,hqe⟩:=zE (x.t[0]'H2)
 have H1:q∈x.t:=by rw[←hqe];exact List.getElem_mem H2
 rw[hqe]at htq hct
 rw[Nat.zero_mul,Nat.add_zero]at hct
 have Hj:=zh htq
 have Hd:=zh hct
 have H6:=Sx.rights_mem h4.2 q H1
 have Hi:=Sx.size_mem H1
 have H9:=zh (show Sx.size q≤1000000∧(∃d,Sx.rightT NM d q=true)∧0<(Sx.typ q).length from⟨by omega,⟨64,H6⟩,Sx.typ_pos H6⟩)
 have Hk:(0:Int)<(x.t.length:Int):=by omega
 have H4:=zh (show(Sx.part 7 p).length+(Sx.typ q).length≤50000000 by have:=Sx.part_len 7 p;have:=Sx.typ_len q;omega)
 have HT:=zh (show Sx.expr SY x=Sx.part 7 p++[[116,111]]++Sx.typ q by
  rw[Sx.expr_eq,hkd]
  simp only[Int.reduceEq,Int.reduceLE,if_true,if_false,or_false,false_or,or_true,true_or,reduceIte,Nat.reduceEqDiff,and_true,true_and,and_false,false_and]
  rw[Sx.first_head 7 H5,hpe,Sx.typL_head H2,hqe])
 have Hh:=zh ih
 have Hm:=zh (show Sx.sizeX x≤n+1∧n+1≤1000000 from⟨hsz,hn⟩)
 rw[hkd]
 obtain⟨L,B,w2,hL,hw2,hB,HX⟩:=boxed hG hN #[.int .i64 x.pos,.int .i64 12,.int .i64 x.n,.string ⟨x.s.toArray⟩,.slice (some ⟨gt,offt,none⟩) x.t.length ct,.slice An x.names.length cn,.slice (some ⟨g,off,none⟩) x.parts.length cp]
 obtain⟨x0,x1,x2,x3,x4,x5,x6⟩:=zbZ HX.o.box
 have Hn:=zaZ HX.o.box
 clear hG hN  ih hsz hn ht htt hnn hp hn0 hn1 hrp hnp hok hnum h1 h2 h4 h5 hkd Hb h3 hpe hqe Hf hty0 hc0 H0 H7 htq hct H1 H6 Hi
 go_enter Tryz.func34, Tryz.ntmps34
 go_upto_region 39 with fail
 clear x0 x1 x2 x3 x4 x5 x6
 have hB0:Below B w2 w2.drew:=(HX.o.r2).drew
 have hO0:OwnS w2.drew B (.slice none 0 0) ([]):=World.ownsRow_nil _ _ _ _
 obtain⟨Fs,hFs⟩:∃F:List (Value→World→Value→Nat→Prop),[IsF (.pointer (some ⟨L,6,none⟩)),IsF (.slice (some ⟨g,off,none⟩) x.parts.length cp),IsF (.pointer (some ⟨g,off,none⟩)),IsF (.agg #[.int .i64 p.pos,.int .i64 p.kind,.int .i64 p.n,.string ⟨p.s.toArray⟩,.slice Atp p.t.length ctp,.slice Anp p.names.length cnp,.slice App p.parts.length cpp]),AppF 0,StrF [[116,111]],AppF 1,IsF (.pointer (some ⟨L,4,none⟩)),IsF (.slice (some ⟨gt,offt,none⟩) x.t.length ct),IsF (.pointer (some ⟨gt,offt,none⟩)),IsF (.agg #[.int .i64 q.kind,.string ⟨q.name.toArray⟩,.slice At1 q.names.length ct1,.slice Ae1 q.embeds.length ce1,.slice Aq1 q.parts.length cq1]),StrF (Sx.typ q),AppF 2,AppF 2]=F:=⟨_,rfl⟩
 obtain⟨F0,F1,F2,F3,F4,F5,F6,F7,F8,F9,F10,F11,F12,F13,-⟩:=zwZ hFs
 have H3:AllStay RowM Fs:=by rw[←hFs];repeat (first | exact .nil | refine .cons (by first | exact IsF.stays | exact AppF.stays | exact StrF.stays) ?_)
 obtain⟨Lf,hLf⟩:∃f:Nat→List Lx.Bytes,(fun k=>([[],(Sx.part 7 p),(Sx.part 7 p)++[[116,111]],(Sx.part 7 p)++[[116,111]]++(Sx.typ q)]:List (List Lx.Bytes)).getD k [])=f:=⟨_,rfl⟩
 have L0:Lf 0=[]:=by rw[←hLf];rfl
 have L1:Lf 1=(Sx.part 7 p):=by rw[←hLf];rfl
 have L2:Lf 2=(Sx.part 7 p)++[[116,111]]:=by rw[←hLf];rfl
 have L3:Lf 3=(Sx.part 7 p)++[[116,111]]++(Sx.typ q):=by rw[←hLf];rfl
 clear hFs hLf
 refine zoZ (by kernel_rfl) [4,6,12] (RowI B w2 (.slice none 0 0) Lf) RowM Fs (.slice none 0 0) (by kernel_rfl) (by kernel_rfl) (by kernel_rfl) (by kernel_rfl) (by kernel_rfl) H3 (n:=14) (by kernel_rfl) ⟨hB0,by rw[L0];exact hO0,fun _=>rfl⟩ ?_ ?_
 ·repeat' first | refine OpsOk.cons ?_ ?_ | fail
  ·exact OpOk.fldB HX.o rfl rfl F0 rfl rfl fun ρ w r k E=>E.n 1 (by kernel_rfl)
  ·exact OpOk.ldB HX.o rfl rfl F1 F0 rfl rfl (by kernel_rfl) rfl
  ·refine OpOk.val rfl rfl F2 RowM.rf fun ρ w r k E hI K hK=>?_
   have e144:=E.e 144 1 (by kernel_rfl) F1
   have c:=E.c
   obtain⟨hg,c0,c1,c2,c3,c4,c5,c6⟩:=Hc.o w (HX.o.wx w hI.1)
   go_simp
   exact hK
  ·refine OpOk.val rfl rfl F3 RowM.rf fun ρ w r k E hI K hK=>?_
   have e145:=E.e 145 2 (by kernel_rfl) F2
   obtain⟨hg,c0,c1,c2,c3,c4,c5,c6⟩:=Hc.o w (HX.o.wx w hI.1)
   go_simp
   exact hK
  ·exact OpOk.hcall rfl rfl F4 HX.o.bb L1 rfl Tryz.func78 (by kernel_rfl) rfl (fun ρ w r k E=>by simp only[List.map_toArray,List.map_cons,List.map_nil,E.e 146 3 (by kernel_rfl) F3,E.c];rfl) fun w hb=>zcbZ n (by have:=Hm.o;omega) Hh.o p Ha.o.1 Ha.o.2.1 Ha.o.2.2 7 (by omega) _ w (HX.o.gx w hb).1 (HX.o.gx w hb).2 (IsEx.below (HX.o.wx w hb) _ _ H8.o)
  ·refine OpOk.one rfl rfl F5 HX.o.bb fun ρ w r k E hI K hK=>?_
   have c:=E.c
   go_simp
   exact hK _ rfl
  ·exact OpOk.appN (j:=0) (s:=147) (x:=148) (p:=4) (q:=5) rfl rfl rfl F6 L1 L2 rfl (by simp) (by(have h1:=H4.o;simp only[List.length_append,List.length_cons,List.length_nil]at *;omega)) HX.o.bb F4 (by kernel_rfl) F5 (by kernel_rfl)
  ·exact OpOk.fldB HX.o rfl rfl F7 rfl rfl fun ρ w r k E=>E.n 1 (by kernel_rfl)
  ·exact OpOk.ldB HX.o rfl rfl F8 F7 rfl rfl (by kernel_rfl) rfl
  ·refine OpOk.val rfl rfl F9 RowM.rf fun ρ w r k E hI K hK=>?_
   have e151:=E.e 151 8 (by kernel_rfl) F8
   have c:=E.c
   obtain⟨hg,c0,c1,c2,c3,c4⟩:=Hd.o w (HX.o.wx w hI.1)
   go_simp
   exact hK
  ·refine OpOk.val rfl rfl F10 RowM.rf fun ρ w r k E hI K hK=>?_
   have e152:=E.e 152 9 (by kernel_rfl) F9
   obtain⟨hg,c0,c1,c2,c3,c4⟩:=Hd.o w (HX.o.wx w hI.1)
   go_simp
   exact hK
  ·exact OpOk.call rfl rfl F11 HX.o.bb rfl Tryz.func28 (by kernel_rfl) rfl (fun ρ w r k E=>by simp only[List.map_toArray,List.map_cons,List.map_nil,E.e 153 10 (by kernel_rfl) F10]) fun w hb=>zkvZ 1000000 (Nat.le_refl _) q H9.o.1 H9.o.2.1 _ w (IsTy.below (HX.o.wx w hb) _ _ Hj.o)
  ·exact OpOk.appN (j:=1) (s:=149) (x:=154) (p:=6) (q:=11) rfl rfl rfl F12 L2 L3 rfl (by exact H9.o.2.2) (by(have h1:=H4.o;simp only[List.length_append,List.length_cons,List.length_nil]at *;omega)) HX.o.bb F6 (by kernel_rfl) F11 (by kernel_rfl)
  ·exact OpOk.asg rfl rfl F13 F12 rfl (by kernel_rfl)
  ·exact .nil
 ·intro uq wq rq hI hF
  have f13:uq 13=rq:=((zmZ F13 (hF 13 (by decide))).2 rfl).symm
  have hBz:=hI.1
  have hOz:=hI.2.1
  rw[show([4,6,12]:List Nat).length=3 from rfl,L3]at hOz
  simp only[List.toList_toArray,fillAct,Act.put,List.setIfInBounds_toArray,List.set_cons_zero,List.set_cons_succ,f13]
  clear hI hF F0 F1 F2 F3 F4 F5 F6 F7 F8 F9 F10 F11 F12 F13 H3 L0 L1 L2 L3
  have He:=zh hOz
  have Hl:=zh hBz
  clear hOz hBz
  go_wp2_with fail
  go_ret
  exact⟨_,rfl,by rw[HT.o];first | exact He.o.base_le HX.o.wb | simpa[List.append_assoc]using He.o.base_le HX.o.wb,HX.o.wx _ Hl.o⟩
theorem zwhZ (n:Nat) (hn:n+1≤1000000) (ih:ToldOk n) (x:Sx.Ex) (hsz:Sx.sizeX x≤n+1) (hok:Sx.okX x) (hnum:Sx.numX x) (hkd:x.kind=13) (v:Value) (W:World) (hG:GL W) (hN:NG≤W.heap.size) (ht:IsEx W v x):ToldIs x v W:=by
 unfold ToldIs
 obtain⟨hsh,hrp⟩:=hok.shape
 obtain⟨hxn,hnp⟩:=Sx.numX_parts hnum
 have H8:=Sx.sizeX_parts x
 obtain⟨At,ct,An,cn,Ap,cp,rfl,htt,hnn,hp,hn0,hn1⟩:=ht.agg
 unfold Sx.shapeX at hsh
 simp only[Bool.and_eq_true]at hsh
 obtain⟨h1,h2,h3,h4,h5⟩:=hsh
 rw[hkd]at h3 h4 h5
 have Hb:x.parts.length=1:=by simp at h5;omega
 have H2:0<x.parts.length:=by omega
 obtain⟨g,off,Atp,ctp,Anp,cnp,App,cpp,rfl,hty0,hc0⟩:=hp.spot 0 H2
 obtain⟨p,hpe⟩:=zE (x.parts[0]'H2)
 have H0:p∈x.parts:=by rw[←hpe];exact List.getElem_mem H2
 rw[hpe]at hty0 hc0
 rw[Nat.zero_mul,Nat.add_zero]at hc0
 have H6:=zh hty0
 have H9:=zh hc0
 have H4:=Sx.sizeX_mem H0
 have H3:=zh (show Sx.sizeX p≤n∧Sx.okX p∧Sx.numX p from⟨by omega,hrp p H0,hnp p H0⟩)
 have Hc:(0:Int)<(x.parts.length:Int):=by omega
 have H7:=zh (show(Sx.part 6 p).length≤50000000 by have:=Sx.part_len 6 p;omega)
 have H5:=zh (Sx.part_pos 6 H3.o.2.1)
 have HT:=zh (show Sx.expr SY x=[[45]]++Sx.part 6 p by
  rw[Sx.expr_eq,hkd]
  simp only[Int.reduceEq,Int.reduceLE,if_true,if_false,or_false,false_or,or_true,true_or,reduceIte,Nat.reduceEqDiff,and_true,true_and,and_false,false_and]
  rw[Sx.first_head 6 H2,hpe]
  rfl)
 have Hd:=zh ih
 have Hf:=zh (show Sx.sizeX x≤n+1∧n+1≤1000000 from⟨hsz,hn⟩)
 rw[hkd]
 obtain⟨L,B,w2,hL,hw2,hB,HX⟩:=boxed hG hN #[.int .i64 x.pos,.int .i64 13,.int .i64 x.n,.string ⟨x.s.toArray⟩,.slice At x.t.length ct,.slice An x.names.length cn,.slice (some ⟨g,off,none⟩) x.parts.length cp]
 obtain⟨x0,x1,x2,x3,x4,x5,x6⟩:=zbZ HX.o.box
 have Hg:=zaZ HX.o.box
 clear hG hN  ih hsz hn ht htt hnn hp hn0 hn1 hrp hnp hok hnum h1 h2 h4 h5 hkd H8 h3 hpe Hb hty0 hc0 H0 H4
 go_enter Tryz.func34, Tryz.ntmps34
 go_upto_region 41 with fail
 clear x0 x1 x2 x3 x4 x5 x6
 have hB0:Below B w2 w2:=HX.o.r2
 have hO0:OwnS w2 B (.slice none 0 0) ([]):=World.ownsRow_nil _ _ _ _
 obtain⟨Fs,hFs⟩:∃F:List (Value→World→Value→Nat→Prop),[AppF 0,IsF (.pointer (some ⟨L,6,none⟩)),IsF (.slice (some ⟨g,off,none⟩) x.parts.length cp),IsF (.pointer (some ⟨g,off,none⟩)),IsF (.agg #[.int .i64 p.pos,.int .i64 p.kind,.int .i64 p.n,.string ⟨p.s.toArray⟩,.slice Atp p.t.length ctp,.slice Anp p.names.length cnp,.slice App p.parts.length cpp]),StrF (Sx.part 6 p),AppF 1,AppF 1]=F:=⟨_,rfl⟩
 obtain⟨F0,F1,F2,F3,F4,F5,F6,F7,-⟩:=zwZ hFs
 have H1:AllStay RowM Fs:=by rw[←hFs];repeat (first | exact .nil | refine .cons (by first | exact IsF.stays | exact AppF.stays | exact StrF.stays) ?_)
 obtain⟨Lf,hLf⟩:∃f:Nat→List Lx.Bytes,(fun k=>([[],[[45]],[[45]]++(Sx.part 6 p)]:List (List Lx.Bytes)).getD k [])=f:=⟨_,rfl⟩
 have L0:Lf 0=[]:=by rw[←hLf];rfl
 have L1:Lf 1=[[45]]:=by rw[←hLf];rfl
 have L2:Lf 2=[[45]]++(Sx.part 6 p):=by rw[←hLf];rfl
 clear hFs hLf
 refine zqZ [0,6] (RowI B w2 (.slice none 0 0) Lf) RowM Fs (.slice none 0 0) (by kernel_rfl) (by kernel_rfl) (by kernel_rfl) (by kernel_rfl) (by kernel_rfl) H1 (n:=8) (by kernel_rfl) ⟨hB0,by rw[L0];exact hO0,fun _=>rfl⟩ ?_ ?_
 ·repeat' first | refine OpsOk.cons ?_ ?_ | fail
  ·refine OpOk.hone rfl rfl F0 HX.o.bb L1 (by simp[maxLen]) fun ρ w r k E hI K hK=>?_
   have c:=E.c
   go_simp
   exact hK _ rfl
  ·exact OpOk.fldB HX.o rfl rfl F1 rfl rfl fun ρ w r k E=>E.n 1 (by kernel_rfl)
  ·exact OpOk.ldB HX.o rfl rfl F2 F1 rfl rfl (by kernel_rfl) rfl
  ·refine OpOk.val rfl rfl F3 RowM.rf fun ρ w r k E hI K hK=>?_
   have e160:=E.e 160 2 (by kernel_rfl) F2
   have c:=E.c
   obtain⟨hg,c0,c1,c2,c3,c4,c5,c6⟩:=H9.o w (HX.o.wx w hI.1)
   go_simp
   exact hK
  ·refine OpOk.val rfl rfl F4 RowM.rf fun ρ w r k E hI K hK=>?_
   have e161:=E.e 161 3 (by kernel_rfl) F3
   obtain⟨hg,c0,c1,c2,c3,c4,c5,c6⟩:=H9.o w (HX.o.wx w hI.1)
   go_simp
   exact hK
  ·exact OpOk.call rfl rfl F5 HX.o.bb rfl Tryz.func78 (by kernel_rfl) rfl (fun ρ w r k E=>by simp only[List.map_toArray,List.map_cons,List.map_nil,E.e 162 4 (by kernel_rfl) F4,E.c];rfl) fun w hb=>zcbZ n (by have:=Hf.o;omega) Hd.o p H3.o.1 H3.o.2.1 H3.o.2.2 6 (by omega) _ w (HX.o.gx w hb).1 (HX.o.gx w hb).2 (IsEx.below (HX.o.wx w hb) _ _ H6.o)
  ·exact OpOk.appN (j:=0) (s:=158) (x:=163) (p:=0) (q:=5) rfl rfl rfl F6 L1 L2 rfl (by exact H5.o) (by(have h1:=H7.o;simp only[List.length_append,List.length_cons,List.length_nil]at *;omega)) HX.o.bb F0 (by kernel_rfl) F5 (by kernel_rfl)
  ·exact OpOk.asg rfl rfl F7 F6 rfl (by kernel_rfl)
  ·exact .nil
 ·intro uq wq rq hI hF
  have f7:uq 7=rq:=((zmZ F7 (hF 7 (by decide))).2 rfl).symm
  have hBz:=hI.1
  have hOz:=hI.2.1
  rw[show([0,6]:List Nat).length=2 from rfl,L2]at hOz
  simp only[List.toList_toArray,fillAct,Act.put,List.setIfInBounds_toArray,List.set_cons_zero,List.set_cons_succ,f7]
  clear hI hF F0 F1 F2 F3 F4 F5 F6 F7 H1 L0 L1 L2
  have Ha:=zh hOz
  have He:=zh hBz
  clear hOz hBz
  go_wp2_with fail
  go_ret
  exact⟨_,rfl,by rw[HT.o];first | exact Ha.o.base_le HX.o.wb | simpa[List.append_assoc]using Ha.o.base_le HX.o.wb,HX.o.wx _ He.o⟩
theorem zwiZ (n:Nat) (hn:n+1≤1000000) (ih:ToldOk n) (x:Sx.Ex) (hsz:Sx.sizeX x≤n+1) (hok:Sx.okX x) (hnum:Sx.numX x) (hkd:x.kind=14) (v:Value) (W:World) (hG:GL W) (hN:NG≤W.heap.size) (ht:IsEx W v x):ToldIs x v W:=by
 unfold ToldIs
 obtain⟨hsh,hrp⟩:=hok.shape
 obtain⟨hxn,hnp⟩:=Sx.numX_parts hnum
 have H8:=Sx.sizeX_parts x
 obtain⟨At,ct,An,cn,Ap,cp,rfl,htt,hnn,hp,hn0,hn1⟩:=ht.agg
 unfold Sx.shapeX at hsh
 simp only[Bool.and_eq_true]at hsh
 obtain⟨h1,h2,h3,h4,h5⟩:=hsh
 rw[hkd]at h3 h4 h5
 have Hb:x.parts.length=1:=by simp at h5;omega
 have H2:0<x.parts.length:=by omega
 obtain⟨g,off,Atp,ctp,Anp,cnp,App,cpp,rfl,hty0,hc0⟩:=hp.spot 0 H2
 obtain⟨p,hpe⟩:=zE (x.parts[0]'H2)
 have H0:p∈x.parts:=by rw[←hpe];exact List.getElem_mem H2
 rw[hpe]at hty0 hc0
 rw[Nat.zero_mul,Nat.add_zero]at hc0
 have H6:=zh hty0
 have H9:=zh hc0
 have H4:=Sx.sizeX_mem H0
 have H3:=zh (show Sx.sizeX p≤n∧Sx.okX p∧Sx.numX p from⟨by omega,hrp p H0,hnp p H0⟩)
 have Hc:(0:Int)<(x.parts.length:Int):=by omega
 have H7:=zh (show(Sx.part 6 p).length≤50000000 by have:=Sx.part_len 6 p;omega)
 have H5:=zh (Sx.part_pos 6 H3.o.2.1)
 have HT:=zh (show Sx.expr SY x=[[110,111,116]]++Sx.part 6 p by
  rw[Sx.expr_eq,hkd]
  simp only[Int.reduceEq,Int.reduceLE,if_true,if_false,or_false,false_or,or_true,true_or,reduceIte,Nat.reduceEqDiff,and_true,true_and,and_false,false_and]
  rw[Sx.first_head 6 H2,hpe]
  rfl)
 have Hd:=zh ih
 have Hf:=zh (show Sx.sizeX x≤n+1∧n+1≤1000000 from⟨hsz,hn⟩)
 rw[hkd]
 obtain⟨L,B,w2,hL,hw2,hB,HX⟩:=boxed hG hN #[.int .i64 x.pos,.int .i64 14,.int .i64 x.n,.string ⟨x.s.toArray⟩,.slice At x.t.length ct,.slice An x.names.length cn,.slice (some ⟨g,off,none⟩) x.parts.length cp]
 obtain⟨x0,x1,x2,x3,x4,x5,x6⟩:=zbZ HX.o.box
 have Hg:=zaZ HX.o.box
 clear hG hN  ih hsz hn ht htt hnn hp hn0 hn1 hrp hnp hok hnum h1 h2 h4 h5 hkd H8 h3 hpe Hb hty0 hc0 H0 H4
 go_enter Tryz.func34, Tryz.ntmps34
 go_upto_region 43 with fail
 clear x0 x1 x2 x3 x4 x5 x6
 have hB0:Below B w2 w2:=HX.o.r2
 have hO0:OwnS w2 B (.slice none 0 0) ([]):=World.ownsRow_nil _ _ _ _
 obtain⟨Fs,hFs⟩:∃F:List (Value→World→Value→Nat→Prop),[AppF 0,IsF (.pointer (some ⟨L,6,none⟩)),IsF (.slice (some ⟨g,off,none⟩) x.parts.length cp),IsF (.pointer (some ⟨g,off,none⟩)),IsF (.agg #[.int .i64 p.pos,.int .i64 p.kind,.int .i64 p.n,.string ⟨p.s.toArray⟩,.slice Atp p.t.length ctp,.slice Anp p.names.length cnp,.slice App p.parts.length cpp]),StrF (Sx.part 6 p),AppF 1,AppF 1]=F:=⟨_,rfl⟩
 obtain⟨F0,F1,F2,F3,F4,F5,F6,F7,-⟩:=zwZ hFs
 have H1:AllStay RowM Fs:=by rw[←hFs];repeat (first | exact .nil | refine .cons (by first | exact IsF.stays | exact AppF.stays | exact StrF.stays) ?_)
 obtain⟨Lf,hLf⟩:∃f:Nat→List Lx.Bytes,(fun k=>([[],[[110,111,116]],[[110,111,116]]++(Sx.part 6 p)]:List (List Lx.Bytes)).getD k [])=f:=⟨_,rfl⟩
 have L0:Lf 0=[]:=by rw[←hLf];rfl
 have L1:Lf 1=[[110,111,116]]:=by rw[←hLf];rfl
 have L2:Lf 2=[[110,111,116]]++(Sx.part 6 p):=by rw[←hLf];rfl
 clear hFs hLf
 refine zqZ [0,6] (RowI B w2 (.slice none 0 0) Lf) RowM Fs (.slice none 0 0) (by kernel_rfl) (by kernel_rfl) (by kernel_rfl) (by kernel_rfl) (by kernel_rfl) H1 (n:=8) (by kernel_rfl) ⟨hB0,by rw[L0];exact hO0,fun _=>rfl⟩ ?_ ?_
 ·repeat' first | refine OpsOk.cons ?_ ?_ | fail
  ·refine OpOk.hone rfl rfl F0 HX.o.bb L1 (by simp[maxLen]) fun ρ w r k E hI K hK=>?_
   have c:=E.c
   go_simp
   exact hK _ rfl
  ·exact OpOk.fldB HX.o rfl rfl F1 rfl rfl fun ρ w r k E=>E.n 1 (by kernel_rfl)
  ·exact OpOk.ldB HX.o rfl rfl F2 F1 rfl rfl (by kernel_rfl) rfl
  ·refine OpOk.val rfl rfl F3 RowM.rf fun ρ w r k E hI K hK=>?_
   have e169:=E.e 169 2 (by kernel_rfl) F2
   have c:=E.c
   obtain⟨hg,c0,c1,c2,c3,c4,c5,c6⟩:=H9.o w (HX.o.wx w hI.1)
   go_simp
   exact hK
  ·refine OpOk.val rfl rfl F4 RowM.rf fun ρ w r k E hI K hK=>?_
   have e170:=E.e 170 3 (by kernel_rfl) F3
   obtain⟨hg,c0,c1,c2,c3,c4,c5,c6⟩:=H9.o w (HX.o.wx w hI.1)
   go_simp
   exact hK
  ·exact OpOk.call rfl rfl F5 HX.o.bb rfl Tryz.func78 (by kernel_rfl) rfl (fun ρ w r k E=>by simp only[List.map_toArray,List.map_cons,List.map_nil,E.e 171 4 (by kernel_rfl) F4,E.c];rfl) fun w hb=>zcbZ n (by have:=Hf.o;omega) Hd.o p H3.o.1 H3.o.2.1 H3.o.2.2 6 (by omega) _ w (HX.o.gx w hb).1 (HX.o.gx w hb).2 (IsEx.below (HX.o.wx w hb) _ _ H6.o)
  ·exact OpOk.appN (j:=0) (s:=167) (x:=172) (p:=0) (q:=5) rfl rfl rfl F6 L1 L2 rfl (by exact H5.o) (by(have h1:=H7.o;simp only[List.length_append,List.length_cons,List.length_nil]at *;omega)) HX.o.bb F0 (by kernel_rfl) F5 (by kernel_rfl)
  ·exact OpOk.asg rfl rfl F7 F6 rfl (by kernel_rfl)
  ·exact .nil
 ·intro uq wq rq hI hF
  have f7:uq 7=rq:=((zmZ F7 (hF 7 (by decide))).2 rfl).symm
  have hBz:=hI.1
  have hOz:=hI.2.1
  rw[show([0,6]:List Nat).length=2 from rfl,L2]at hOz
  simp only[List.toList_toArray,fillAct,Act.put,List.setIfInBounds_toArray,List.set_cons_zero,List.set_cons_succ,f7]
  clear hI hF F0 F1 F2 F3 F4 F5 F6 F7 H1 L0 L1 L2
  have Ha:=zh hOz
  have He:=zh hBz
  clear hOz hBz
  go_wp2_with fail
  go_ret
  exact⟨_,rfl,by rw[HT.o];first | exact Ha.o.base_le HX.o.wb | simpa[List.append_assoc]using Ha.o.base_le HX.o.wb,HX.o.wx _ He.o⟩
theorem zdrZ (n:Nat) (hn:n+1≤1000000) (ih:ToldOk n) (x:Sx.Ex) (hsz:Sx.sizeX x≤n+1) (hok:Sx.okX x) (hnum:Sx.numX x) (kd:Int) (hk1:15≤kd) (hk2:kd≤21) (l:Nat) (hl:Sx.level kd=l) (hl3:¬l=3) (H3:1≤l) (hl5:l≤5) (hkd:x.kind=kd) (v:Value) (W:World) (hG:GL W) (hN:NG≤W.heap.size) (ht:IsEx W v x):ToldIs x v W:=by
 unfold ToldIs
 obtain⟨hsh,hrp⟩:=hok.shape
 obtain⟨hxn,hnp⟩:=Sx.numX_parts hnum
 have Hd:=Sx.sizeX_parts x
 obtain⟨At,ct,An,cn,Ap,cp,rfl,htt,hnn,hp,hn0,hn1⟩:=ht.agg
 unfold Sx.shapeX at hsh
 simp only[Bool.and_eq_true]at hsh
 obtain⟨h1,h2,h3,h4,h5⟩:=hsh
 rw[hkd,if_neg (by omega),Bool.and_eq_true,if_neg (by omega),if_neg (by omega),if_neg (by omega)]at h5
 have Hl:x.parts.length=2:=by simpa using h5.2
 have H5:0<x.parts.length:=by omega
 obtain⟨g,off,Atp,ctp,Anp,cnp,App,cpp,rfl,hty0,hc0⟩:=hp.spot 0 H5
 obtain⟨p,hpe⟩:=zE (x.parts[0]'H5)
 have H0:p∈x.parts:=by rw[←hpe];exact List.getElem_mem H5
 rw[hpe]at hty0 hc0
 rw[Nat.zero_mul,Nat.add_zero]at hc0
 have H8:=zh hty0
 have He:=zh hc0
 have H7:=Sx.sizeX_mem H0
 have Ha:=zh (show Sx.sizeX p≤n∧Sx.okX p∧Sx.numX p from⟨by omega,hrp p H0,hnp p H0⟩)
 have Hp:(0:Int)<(x.parts.length:Int):=by omega
 have H3:1<x.parts.length:=by omega
 obtain⟨g',off',Atr,ctr,Anr,cnr,Apr,cpr,hA1,hty1,hc1⟩:=hp.spot 1 H3
 injection hA1 with hA1
 injection hA1 with e1 e2
 subst e1 e2
 obtain⟨r,hre⟩:=zE (x.parts[1]'H3)
 have H1:r∈x.parts:=by rw[←hre];exact List.getElem_mem H3
 rw[hre]at hty1 hc1
 rw[Nat.one_mul]at hc1
 have Hc:=zh hty1
 have Hf:=zh hc1
 have H9:=Sx.sizeX_mem H1
 have H6:=zh (show Sx.sizeX r≤n∧Sx.okX r∧Sx.numX r from⟨by omega,hrp r H1,hnp r H1⟩)
 have Hr:(1:Int)<(x.parts.length:Int):=by omega
 have H4:=zh (show(Sx.part l p).length+(Sx.part (l+1) r).length≤50000000 by have:=Sx.part_len l p;have:=Sx.part_len (l+1) r;omega)
 have Hb:=zh (Sx.part_pos (l+1) H6.o.2.1)
 have HT:=zh (show Sx.expr SY x=Sx.part l p++[Sx.sign kd]++Sx.part (l+1) r by
  rw[Sx.expr_eq,hkd]
  repeat rw[if_neg (by omega)]
  rw[hl,Sx.first_head _ H5,Sx.second_head _ H3,hpe,hre])
 have Hg:=zh ih
 have Hi:=zh (show Sx.sizeX x≤n+1∧n+1≤1000000 from⟨hsz,hn⟩)
 rw[hkd]
 have k1:(kd==1)=false:=by rw[beq_eq_false_iff_ne];omega
 have k2:(kd==2)=false:=by rw[beq_eq_false_iff_ne];omega
 have k3:(kd==3)=false:=by rw[beq_eq_false_iff_ne];omega
 have k4:(kd==4)=false:=by rw[beq_eq_false_iff_ne];omega
 have k5:(kd==5)=false:=by rw[beq_eq_false_iff_ne];omega
 have k6:(kd==6)=false:=by rw[beq_eq_false_iff_ne];omega
 have k7:(kd==7)=false:=by rw[beq_eq_false_iff_ne];omega
 have k8:(kd==8)=false:=by rw[beq_eq_false_iff_ne];omega
 have k9:(kd==9)=false:=by rw[beq_eq_false_iff_ne];omega
 have Hm:(kd==10)=false:=by rw[beq_eq_false_iff_ne];omega
 have Hk:(kd==11)=false:=by rw[beq_eq_false_iff_ne];omega
 have Ho:(kd==12)=false:=by rw[beq_eq_false_iff_ne];omega
 have Hj:(kd==13)=false:=by rw[beq_eq_false_iff_ne];omega
 have Hn:(kd==14)=false:=by rw[beq_eq_false_iff_ne];omega
 have Hq:(((l:Nat):Int)==3)=false:=by rw[beq_eq_false_iff_ne];omega
 have Hu:IntKind.i64.wrap (((l:Nat):Int)+1)=((l:Nat):Int)+1:=by rw[IntKind.wrap_i64];omega
 have Hs:=zh hl
 obtain⟨L,B,w2,hL,hw2,hB,HX⟩:=boxed hG hN #[.int .i64 x.pos,.int .i64 kd,.int .i64 x.n,.string ⟨x.s.toArray⟩,.slice At x.t.length ct,.slice An x.names.length cn,.slice (some ⟨g,off,none⟩) x.parts.length cp]
 obtain⟨x0,x1,x2,x3,x4,x5,x6⟩:=zbZ HX.o.box
 have Hv:=zaZ HX.o.box
 clear hG hN  ih hsz hn ht htt hnn hp hn0 hn1 hrp hnp hok hnum h1 h2 h3 h4 h5 hkd Hd hpe hre Hl hl hty0 hc0 H0 H7 hty1 hc1 H1 H9
 go_enter Tryz.func34, Tryz.ntmps34
 go_upto_region 48 with(go_at_call 80;refine(zfsZ kd _ (by omega) hk2).mono ?_;rw[Hs.o];rintro e w3 ⟨rfl,rfl⟩)
 clear x0 x1 x2 x3 x4 x5 x6 k1 k2 k3 k4 k5 k6 k7 k8 k9 Hm Hk Ho Hj Hn
 have hB0:Below B w2 w2.drew:=(HX.o.r2).drew
 have hO0:OwnS w2.drew B (.slice none 0 0) ([]):=World.ownsRow_nil _ _ _ _
 obtain⟨Fs,hFs⟩:∃F:List (Value→World→Value→Nat→Prop),[IsF (.pointer (some ⟨L,6,none⟩)),IsF (.slice (some ⟨g,off,none⟩) x.parts.length cp),IsF (.pointer (some ⟨g,off,none⟩)),IsF (.agg #[.int .i64 p.pos,.int .i64 p.kind,.int .i64 p.n,.string ⟨p.s.toArray⟩,.slice Atp p.t.length ctp,.slice Anp p.names.length cnp,.slice App p.parts.length cpp]),IsF (.int .i64 ((l:Nat):Int)),AppF 0,IsF (.pointer (some ⟨L,1,none⟩)),IsF (.int .i64 kd),IsF (.string ⟨(Sx.sign kd).toArray⟩),StrF [Sx.sign kd],AppF 1,IsF (.pointer (some ⟨L,6,none⟩)),IsF (.slice (some ⟨g,off,none⟩) x.parts.length cp),IsF (.pointer (some ⟨g,off+7,none⟩)),IsF (.agg #[.int .i64 r.pos,.int .i64 r.kind,.int .i64 r.n,.string ⟨r.s.toArray⟩,.slice Atr r.t.length ctr,.slice Anr r.names.length cnr,.slice Apr r.parts.length cpr]),IsF (.int .i64 ((l:Nat):Int)),IsF (.int .i64 (((l:Nat):Int)+1)),StrF (Sx.part (l+1) r),AppF 2,AppF 2]=F:=⟨_,rfl⟩
 obtain⟨F0,F1,F2,F3,F4,F5,F6,F7,F8,F9,F10,F11,F12,F13,F14,F15,F16,F17,F18,F19,-⟩:=zwZ hFs
 have H2:AllStay RowM Fs:=by rw[←hFs];repeat (first | exact .nil | refine .cons (by first | exact IsF.stays | exact AppF.stays | exact StrF.stays) ?_)
 obtain⟨Lf,hLf⟩:∃f:Nat→List Lx.Bytes,(fun k=>([[],(Sx.part l p),(Sx.part l p)++[Sx.sign kd],(Sx.part l p)++[Sx.sign kd]++(Sx.part (l+1) r)]:List (List Lx.Bytes)).getD k [])=f:=⟨_,rfl⟩
 have L0:Lf 0=[]:=by rw[←hLf];rfl
 have L1:Lf 1=(Sx.part l p):=by rw[←hLf];rfl
 have L2:Lf 2=(Sx.part l p)++[Sx.sign kd]:=by rw[←hLf];rfl
 have L3:Lf 3=(Sx.part l p)++[Sx.sign kd]++(Sx.part (l+1) r):=by rw[←hLf];rfl
 clear hFs hLf
 refine zoZ (by kernel_rfl) [5,10,18] (RowI B w2 (.slice none 0 0) Lf) RowM Fs (.slice none 0 0) (by kernel_rfl) (by kernel_rfl) (by kernel_rfl) (by kernel_rfl) (by kernel_rfl) H2 (n:=20) (by kernel_rfl) ⟨hB0,by rw[L0];exact hO0,fun _=>rfl⟩ ?_ ?_
 ·repeat' first | refine OpsOk.cons ?_ ?_ | fail
  ·exact OpOk.fldB HX.o rfl rfl F0 rfl rfl fun ρ w r k E=>E.n 1 (by kernel_rfl)
  ·exact OpOk.ldB HX.o rfl rfl F1 F0 rfl rfl (by kernel_rfl) rfl
  ·refine OpOk.val rfl rfl F2 RowM.rf fun ρ w r k E hI K hK=>?_
   have e181:=E.e 181 1 (by kernel_rfl) F1
   have c:=E.c
   obtain⟨hg,c0,c1,c2,c3,c4,c5,c6⟩:=He.o w (HX.o.wx w hI.1)
   go_simp
   exact hK
  ·refine OpOk.val rfl rfl F3 RowM.rf fun ρ w r k E hI K hK=>?_
   have e182:=E.e 182 2 (by kernel_rfl) F2
   obtain⟨hg,c0,c1,c2,c3,c4,c5,c6⟩:=He.o w (HX.o.wx w hI.1)
   go_simp
   exact hK
  ·exact OpOk.mov rfl rfl F4 RowM.rf rfl fun ρ w r k E=>E.n 7 (by kernel_rfl)
  ·exact OpOk.hcall (args:=#[.agg #[.int .i64 p.pos,.int .i64 p.kind,.int .i64 p.n,.string ⟨p.s.toArray⟩,.slice Atp p.t.length ctp,.slice Anp p.names.length cnp,.slice App p.parts.length cpp],.int .i64 ((l:Nat):Int)]) rfl rfl F5 HX.o.bb L1 rfl Tryz.func78 (by kernel_rfl) rfl (fun ρ w r k E=>by simp only[List.map_toArray,List.map_cons,List.map_nil,E.e 183 3 (by kernel_rfl) F3,E.e 184 4 (by kernel_rfl) F4]) fun w hb=>zcbZ n (by have:=Hi.o;omega) Hg.o p Ha.o.1 Ha.o.2.1 Ha.o.2.2 l (by omega) _ w (HX.o.gx w hb).1 (HX.o.gx w hb).2 (IsEx.below (HX.o.wx w hb) _ _ H8.o)
  ·exact OpOk.fldB HX.o rfl rfl F6 rfl rfl fun ρ w r k E=>E.n 1 (by kernel_rfl)
  ·exact OpOk.ldB HX.o rfl rfl F7 F6 rfl rfl (by kernel_rfl) rfl
  ·exact OpOk.pcall (args:=#[.int .i64 kd]) rfl rfl F8 HX.o.bb rfl Tryz.func81 (by kernel_rfl) rfl (fun ρ w r k E=>by simp only[List.map_toArray,List.map_cons,List.map_nil,E.e 187 7 (by kernel_rfl) F7]) fun w hb=>(zkxZ kd w hk1 hk2).mono fun e w2 ⟨h1,h2⟩=>⟨h1,by rw[←h2];exact Below.refl _ _⟩
  ·refine OpOk.one rfl rfl F9 HX.o.bb fun ρ w r k E hI K hK=>?_
   have e188:=E.e 188 8 (by kernel_rfl) F8
   go_simp
   exact hK _ rfl
  ·exact OpOk.appN (j:=0) (s:=185) (x:=189) (p:=5) (q:=9) rfl rfl rfl F10 L1 L2 rfl (by simp) (by(have h1:=H4.o;simp only[List.length_append,List.length_cons,List.length_nil]at *;omega)) HX.o.bb F5 (by kernel_rfl) F9 (by kernel_rfl)
  ·exact OpOk.fldB HX.o rfl rfl F11 rfl rfl fun ρ w r k E=>E.n 1 (by kernel_rfl)
  ·exact OpOk.ldB HX.o rfl rfl F12 F11 rfl rfl (by kernel_rfl) rfl
  ·refine OpOk.val rfl rfl F13 RowM.rf fun ρ w r k E hI K hK=>?_
   have e192:=E.e 192 12 (by kernel_rfl) F12
   have c:=E.c
   obtain⟨hg,c0,c1,c2,c3,c4,c5,c6⟩:=Hf.o w (HX.o.wx w hI.1)
   go_simp
   exact hK
  ·refine OpOk.val rfl rfl F14 RowM.rf fun ρ w r k E hI K hK=>?_
   have e193:=E.e 193 13 (by kernel_rfl) F13
   obtain⟨hg,c0,c1,c2,c3,c4,c5,c6⟩:=Hf.o w (HX.o.wx w hI.1)
   go_simp
   exact hK
  ·exact OpOk.mov rfl rfl F15 RowM.rf rfl fun ρ w r k E=>E.n 6 (by kernel_rfl)
  ·refine OpOk.val rfl rfl F16 RowM.rf fun ρ w r k E hI K hK=>?_
   have e195:=E.e 195 15 (by kernel_rfl) F15
   have c:=E.c
   go_simp
   exact hK
  ·exact OpOk.call (args:=#[.agg #[.int .i64 r.pos,.int .i64 r.kind,.int .i64 r.n,.string ⟨r.s.toArray⟩,.slice Atr r.t.length ctr,.slice Anr r.names.length cnr,.slice Apr r.parts.length cpr],.int .i64 (((l:Nat):Int)+1)]) rfl rfl F17 HX.o.bb rfl Tryz.func78 (by kernel_rfl) rfl (fun ρ w r k E=>by simp only[List.map_toArray,List.map_cons,List.map_nil,E.e 194 14 (by kernel_rfl) F14,E.e 196 16 (by kernel_rfl) F16]) fun w hb=>(by have h:=zcbZ n (by have:=Hi.o;omega) Hg.o r H6.o.1 H6.o.2.1 H6.o.2.2 (l+1) (by omega) _ w (HX.o.gx w hb).1 (HX.o.gx w hb).2 (IsEx.below (HX.o.wx w hb) _ _ Hc.o);rw[Int.natCast_add]at h;exact h)
  ·exact OpOk.appN (j:=1) (s:=190) (x:=197) (p:=10) (q:=17) rfl rfl rfl F18 L2 L3 rfl (by exact Hb.o) (by(have h1:=H4.o;simp only[List.length_append,List.length_cons,List.length_nil]at *;omega)) HX.o.bb F10 (by kernel_rfl) F17 (by kernel_rfl)
  ·exact OpOk.asg rfl rfl F19 F18 rfl (by kernel_rfl)
  ·exact .nil
 ·intro uq wq rq hI hF
  have f19:uq 19=rq:=((zmZ F19 (hF 19 (by decide))).2 rfl).symm
  have hBz:=hI.1
  have hOz:=hI.2.1
  rw[show([5,10,18]:List Nat).length=3 from rfl,L3]at hOz
  simp only[List.toList_toArray,fillAct,Act.put,List.setIfInBounds_toArray,List.set_cons_zero,List.set_cons_succ,f19]
  clear hI hF F0 F1 F2 F3 F4 F5 F6 F7 F8 F9 F10 F11 F12 F13 F14 F15 F16 F17 F18 F19 H2 L0 L1 L2 L3
  have Hh:=zh hOz
  have Ht:=zh hBz
  clear hOz hBz
  go_wp2_with fail
  go_ret
  exact⟨_,rfl,by rw[HT.o];first | exact Hh.o.base_le HX.o.wb | simpa[List.append_assoc]using Hh.o.base_le HX.o.wb,HX.o.wx _ Ht.o⟩
theorem zkzZ (n:Nat) (hn:n+1≤1000000) (ih:ToldOk n) (x:Sx.Ex) (hsz:Sx.sizeX x≤n+1) (hok:Sx.okX x) (hnum:Sx.numX x) (kd:Int) (hk1:15≤kd) (hk2:kd≤21) (hl:Sx.level kd=3) (hkd:x.kind=kd) (v:Value) (W:World) (hG:GL W) (hN:NG≤W.heap.size) (ht:IsEx W v x):ToldIs x v W:=by
 unfold ToldIs
 obtain⟨hsh,hrp⟩:=hok.shape
 obtain⟨hxn,hnp⟩:=Sx.numX_parts hnum
 have Hd:=Sx.sizeX_parts x
 obtain⟨At,ct,An,cn,Ap,cp,rfl,htt,hnn,hp,hn0,hn1⟩:=ht.agg
 unfold Sx.shapeX at hsh
 simp only[Bool.and_eq_true]at hsh
 obtain⟨h1,h2,h3,h4,h5⟩:=hsh
 rw[hkd,if_neg (by omega),Bool.and_eq_true,if_neg (by omega),if_neg (by omega),if_neg (by omega)]at h5
 have Hl:x.parts.length=2:=by simpa using h5.2
 have H4:0<x.parts.length:=by omega
 obtain⟨g,off,Atp,ctp,Anp,cnp,App,cpp,rfl,hty0,hc0⟩:=hp.spot 0 H4
 obtain⟨p,hpe⟩:=zE (x.parts[0]'H4)
 have H0:p∈x.parts:=by rw[←hpe];exact List.getElem_mem H4
 rw[hpe]at hty0 hc0
 rw[Nat.zero_mul,Nat.add_zero]at hc0
 have H8:=zh hty0
 have He:=zh hc0
 have H7:=Sx.sizeX_mem H0
 have Ha:=zh (show Sx.sizeX p≤n∧Sx.okX p∧Sx.numX p from⟨by omega,hrp p H0,hnp p H0⟩)
 have Hp:(0:Int)<(x.parts.length:Int):=by omega
 have H5:1<x.parts.length:=by omega
 obtain⟨g',off',Atr,ctr,Anr,cnr,Apr,cpr,hA1,hty1,hc1⟩:=hp.spot 1 H5
 injection hA1 with hA1
 injection hA1 with e1 e2
 subst e1 e2
 obtain⟨r,hre⟩:=zE (x.parts[1]'H5)
 have H1:r∈x.parts:=by rw[←hre];exact List.getElem_mem H5
 rw[hre]at hty1 hc1
 rw[Nat.one_mul]at hc1
 have Hc:=zh hty1
 have Hf:=zh hc1
 have H9:=Sx.sizeX_mem H1
 have H6:=zh (show Sx.sizeX r≤n∧Sx.okX r∧Sx.numX r from⟨by omega,hrp r H1,hnp r H1⟩)
 have Hq:(1:Int)<(x.parts.length:Int):=by omega
 have H3:=zh (show(Sx.part 4 p).length+(Sx.part (3+1) r).length≤50000000 by have:=Sx.part_len 4 p;have:=Sx.part_len (3+1) r;omega)
 have Hb:=zh (Sx.part_pos (3+1) H6.o.2.1)
 have HT:=zh (show Sx.expr SY x=Sx.part 4 p++[Sx.sign kd]++Sx.part (3+1) r by
  rw[Sx.expr_eq,hkd]
  repeat rw[if_neg (by omega)]
  rw[hl,if_pos rfl,Sx.first_head _ H4,Sx.second_head _ H5,hpe,hre])
 have Hg:=zh ih
 have Hi:=zh (show Sx.sizeX x≤n+1∧n+1≤1000000 from⟨hsz,hn⟩)
 rw[hkd]
 have k1:(kd==1)=false:=by rw[beq_eq_false_iff_ne];omega
 have k2:(kd==2)=false:=by rw[beq_eq_false_iff_ne];omega
 have k3:(kd==3)=false:=by rw[beq_eq_false_iff_ne];omega
 have k4:(kd==4)=false:=by rw[beq_eq_false_iff_ne];omega
 have k5:(kd==5)=false:=by rw[beq_eq_false_iff_ne];omega
 have k6:(kd==6)=false:=by rw[beq_eq_false_iff_ne];omega
 have k7:(kd==7)=false:=by rw[beq_eq_false_iff_ne];omega
 have k8:(kd==8)=false:=by rw[beq_eq_false_iff_ne];omega
 have k9:(kd==9)=false:=by rw[beq_eq_false_iff_ne];omega
 have Hm:(kd==10)=false:=by rw[beq_eq_false_iff_ne];omega
 have Hk:(kd==11)=false:=by rw[beq_eq_false_iff_ne];omega
 have Ho:(kd==12)=false:=by rw[beq_eq_false_iff_ne];omega
 have Hj:(kd==13)=false:=by rw[beq_eq_false_iff_ne];omega
 have Hn:(kd==14)=false:=by rw[beq_eq_false_iff_ne];omega
 have Hr:=zh hl
 obtain⟨L,B,w2,hL,hw2,hB,HX⟩:=boxed hG hN #[.int .i64 x.pos,.int .i64 kd,.int .i64 x.n,.string ⟨x.s.toArray⟩,.slice At x.t.length ct,.slice An x.names.length cn,.slice (some ⟨g,off,none⟩) x.parts.length cp]
 obtain⟨x0,x1,x2,x3,x4,x5,x6⟩:=zbZ HX.o.box
 have Ht:=zaZ HX.o.box
 clear hG hN  ih hsz hn ht htt hnn hp hn0 hn1 hrp hnp hok hnum h1 h2 h3 h4 h5 hkd Hd hpe hre Hl hl hty0 hc0 H0 H7 hty1 hc1 H1 H9
 go_enter Tryz.func34, Tryz.ntmps34
 go_upto_region 48 with(go_at_call 80;refine(zfsZ kd _ (by omega) hk2).mono ?_;rw[Hr.o];rintro e w3 ⟨rfl,rfl⟩)
 clear x0 x1 x2 x3 x4 x5 x6 k1 k2 k3 k4 k5 k6 k7 k8 k9 Hm Hk Ho Hj Hn
 have hB0:Below B w2 w2.drew:=(HX.o.r2).drew
 have hO0:OwnS w2.drew B (.slice none 0 0) ([]):=World.ownsRow_nil _ _ _ _
 obtain⟨Fs,hFs⟩:∃F:List (Value→World→Value→Nat→Prop),[IsF (.pointer (some ⟨L,6,none⟩)),IsF (.slice (some ⟨g,off,none⟩) x.parts.length cp),IsF (.pointer (some ⟨g,off,none⟩)),IsF (.agg #[.int .i64 p.pos,.int .i64 p.kind,.int .i64 p.n,.string ⟨p.s.toArray⟩,.slice Atp p.t.length ctp,.slice Anp p.names.length cnp,.slice App p.parts.length cpp]),IsF (.int .i64 4),AppF 0,IsF (.pointer (some ⟨L,1,none⟩)),IsF (.int .i64 kd),IsF (.string ⟨(Sx.sign kd).toArray⟩),StrF [Sx.sign kd],AppF 1,IsF (.pointer (some ⟨L,6,none⟩)),IsF (.slice (some ⟨g,off,none⟩) x.parts.length cp),IsF (.pointer (some ⟨g,off+7,none⟩)),IsF (.agg #[.int .i64 r.pos,.int .i64 r.kind,.int .i64 r.n,.string ⟨r.s.toArray⟩,.slice Atr r.t.length ctr,.slice Anr r.names.length cnr,.slice Apr r.parts.length cpr]),IsF (.int .i64 3),IsF (.int .i64 (4)),StrF (Sx.part (3+1) r),AppF 2,AppF 2]=F:=⟨_,rfl⟩
 obtain⟨F0,F1,F2,F3,F4,F5,F6,F7,F8,F9,F10,F11,F12,F13,F14,F15,F16,F17,F18,F19,-⟩:=zwZ hFs
 have H2:AllStay RowM Fs:=by rw[←hFs];repeat (first | exact .nil | refine .cons (by first | exact IsF.stays | exact AppF.stays | exact StrF.stays) ?_)
 obtain⟨Lf,hLf⟩:∃f:Nat→List Lx.Bytes,(fun k=>([[],(Sx.part 4 p),(Sx.part 4 p)++[Sx.sign kd],(Sx.part 4 p)++[Sx.sign kd]++(Sx.part (3+1) r)]:List (List Lx.Bytes)).getD k [])=f:=⟨_,rfl⟩
 have L0:Lf 0=[]:=by rw[←hLf];rfl
 have L1:Lf 1=(Sx.part 4 p):=by rw[←hLf];rfl
 have L2:Lf 2=(Sx.part 4 p)++[Sx.sign kd]:=by rw[←hLf];rfl
 have L3:Lf 3=(Sx.part 4 p)++[Sx.sign kd]++(Sx.part (3+1) r):=by rw[←hLf];rfl
 clear hFs hLf
 refine zoZ (by kernel_rfl) [5,10,18] (RowI B w2 (.slice none 0 0) Lf) RowM Fs (.slice none 0 0) (by kernel_rfl) (by kernel_rfl) (by kernel_rfl) (by kernel_rfl) (by kernel_rfl) H2 (n:=20) (by kernel_rfl) ⟨hB0,by rw[L0];exact hO0,fun _=>rfl⟩ ?_ ?_
 ·repeat' first | refine OpsOk.cons ?_ ?_ | fail
  ·exact OpOk.fldB HX.o rfl rfl F0 rfl rfl fun ρ w r k E=>E.n 1 (by kernel_rfl)
  ·exact OpOk.ldB HX.o rfl rfl F1 F0 rfl rfl (by kernel_rfl) rfl
  ·refine OpOk.val rfl rfl F2 RowM.rf fun ρ w r k E hI K hK=>?_
   have e181:=E.e 181 1 (by kernel_rfl) F1
   have c:=E.c
   obtain⟨hg,c0,c1,c2,c3,c4,c5,c6⟩:=He.o w (HX.o.wx w hI.1)
   go_simp
   exact hK
  ·refine OpOk.val rfl rfl F3 RowM.rf fun ρ w r k E hI K hK=>?_
   have e182:=E.e 182 2 (by kernel_rfl) F2
   obtain⟨hg,c0,c1,c2,c3,c4,c5,c6⟩:=He.o w (HX.o.wx w hI.1)
   go_simp
   exact hK
  ·exact OpOk.mov rfl rfl F4 RowM.rf rfl fun ρ w r k E=>E.n 7 (by kernel_rfl)
  ·exact OpOk.hcall (args:=#[.agg #[.int .i64 p.pos,.int .i64 p.kind,.int .i64 p.n,.string ⟨p.s.toArray⟩,.slice Atp p.t.length ctp,.slice Anp p.names.length cnp,.slice App p.parts.length cpp],.int .i64 4]) rfl rfl F5 HX.o.bb L1 rfl Tryz.func78 (by kernel_rfl) rfl (fun ρ w r k E=>by simp only[List.map_toArray,List.map_cons,List.map_nil,E.e 183 3 (by kernel_rfl) F3,E.e 184 4 (by kernel_rfl) F4]) fun w hb=>zcbZ n (by have:=Hi.o;omega) Hg.o p Ha.o.1 Ha.o.2.1 Ha.o.2.2 4 (by omega) _ w (HX.o.gx w hb).1 (HX.o.gx w hb).2 (IsEx.below (HX.o.wx w hb) _ _ H8.o)
  ·exact OpOk.fldB HX.o rfl rfl F6 rfl rfl fun ρ w r k E=>E.n 1 (by kernel_rfl)
  ·exact OpOk.ldB HX.o rfl rfl F7 F6 rfl rfl (by kernel_rfl) rfl
  ·exact OpOk.pcall (args:=#[.int .i64 kd]) rfl rfl F8 HX.o.bb rfl Tryz.func81 (by kernel_rfl) rfl (fun ρ w r k E=>by simp only[List.map_toArray,List.map_cons,List.map_nil,E.e 187 7 (by kernel_rfl) F7]) fun w hb=>(zkxZ kd w hk1 hk2).mono fun e w2 ⟨h1,h2⟩=>⟨h1,by rw[←h2];exact Below.refl _ _⟩
  ·refine OpOk.one rfl rfl F9 HX.o.bb fun ρ w r k E hI K hK=>?_
   have e188:=E.e 188 8 (by kernel_rfl) F8
   go_simp
   exact hK _ rfl
  ·exact OpOk.appN (j:=0) (s:=185) (x:=189) (p:=5) (q:=9) rfl rfl rfl F10 L1 L2 rfl (by simp) (by(have h1:=H3.o;simp only[List.length_append,List.length_cons,List.length_nil]at *;omega)) HX.o.bb F5 (by kernel_rfl) F9 (by kernel_rfl)
  ·exact OpOk.fldB HX.o rfl rfl F11 rfl rfl fun ρ w r k E=>E.n 1 (by kernel_rfl)
  ·exact OpOk.ldB HX.o rfl rfl F12 F11 rfl rfl (by kernel_rfl) rfl
  ·refine OpOk.val rfl rfl F13 RowM.rf fun ρ w r k E hI K hK=>?_
   have e192:=E.e 192 12 (by kernel_rfl) F12
   have c:=E.c
   obtain⟨hg,c0,c1,c2,c3,c4,c5,c6⟩:=Hf.o w (HX.o.wx w hI.1)
   go_simp
   exact hK
  ·refine OpOk.val rfl rfl F14 RowM.rf fun ρ w r k E hI K hK=>?_
   have e193:=E.e 193 13 (by kernel_rfl) F13
   obtain⟨hg,c0,c1,c2,c3,c4,c5,c6⟩:=Hf.o w (HX.o.wx w hI.1)
   go_simp
   exact hK
  ·exact OpOk.mov rfl rfl F15 RowM.rf rfl fun ρ w r k E=>E.n 6 (by kernel_rfl)
  ·refine OpOk.val rfl rfl F16 RowM.rf fun ρ w r k E hI K hK=>?_
   have e195:=E.e 195 15 (by kernel_rfl) F15
   have c:=E.c
   go_simp
   exact hK
  ·exact OpOk.call (args:=#[.agg #[.int .i64 r.pos,.int .i64 r.kind,.int .i64 r.n,.string ⟨r.s.toArray⟩,.slice Atr r.t.length ctr,.slice Anr r.names.length cnr,.slice Apr r.parts.length cpr],.int .i64 (4)]) rfl rfl F17 HX.o.bb rfl Tryz.func78 (by kernel_rfl) rfl (fun ρ w r k E=>by simp only[List.map_toArray,List.map_cons,List.map_nil,E.e 194 14 (by kernel_rfl) F14,E.e 196 16 (by kernel_rfl) F16]) fun w hb=>zcbZ n (by have:=Hi.o;omega) Hg.o r H6.o.1 H6.o.2.1 H6.o.2.2 (3+1) (by omega) _ w (HX.o.gx w hb).1 (HX.o.gx w hb).2 (IsEx.below (HX.o.wx w hb) _ _ Hc.o)
  ·exact OpOk.appN (j:=1) (s:=190) (x:=197) (p:=10) (q:=17) rfl rfl rfl F18 L2 L3 rfl (by exact Hb.o) (by(have h1:=H3.o;simp only[List.length_append,List.length_cons,List.length_nil]at *;omega)) HX.o.bb F10 (by kernel_rfl) F17 (by kernel_rfl)
  ·exact OpOk.asg rfl rfl F19 F18 rfl (by kernel_rfl)
  ·exact .nil
 ·intro uq wq rq hI hF
  have f19:uq 19=rq:=((zmZ F19 (hF 19 (by decide))).2 rfl).symm
  have hBz:=hI.1
  have hOz:=hI.2.1
  rw[show([5,10,18]:List Nat).length=3 from rfl,L3]at hOz
  simp only[List.toList_toArray,fillAct,Act.put,List.setIfInBounds_toArray,List.set_cons_zero,List.set_cons_succ,f19]
  clear hI hF F0 F1 F2 F3 F4 F5 F6 F7 F8 F9 F10 F11 F12 F13 F14 F15 F16 F17 F18 F19 H2 L0 L1 L2 L3
  have Hh:=zh hOz
  have Hs:=zh hBz
  clear hOz hBz
  go_wp2_with fail
  go_ret
  exact⟨_,rfl,by rw[HT.o];first | exact Hh.o.base_le HX.o.wb | simpa[List.append_assoc]using Hh.o.base_le HX.o.wb,HX.o.wx _ Hs.o⟩
end Go.Proofs.YtdncljdfmdgdaaaGreatDoor
