/-
  The walk of coilref2's Told at records, and at all.
-/
import Derived.Test.YtdncljdfmdgdaaaGreatDoorM1
import Derived.Test.YtdncljdfmdgdaaaGreatDoorM35
import Derived.Test.YtdncljdfmdgdaaaGreatDoorM33
import Derived.Test.YtdncljdfmdgdaaaGreatDoorM17
set_option linter.unusedSimpArgs false
set_option linter.unusedVariables false
set_option maxRecDepth 100000
set_option maxHeartbeats 16000000
namespace Go.Proofs.YtdncljdfmdgdaaaGreatDoor
open Go.RowKit Go.Shelf
attribute [local go_sem] opWp zbaZ zbcZ zbbZ
theorem zwjZ (n:Nat) (hn:n+1≤1000000) (ih:ToldOk n) (x:Sx.Ex) (hsz:Sx.sizeX x≤n+1) (hok:Sx.okX x) (hnum:Sx.numX x) (hkd:x.kind=11) (v:Value) (W:World) (hG:GL W) (hN:NG≤W.heap.size) (ht:IsEx W v x):ToldIs x v W:=by
 unfold ToldIs
 obtain⟨hsh,hrp⟩:=hok.shape
 obtain⟨hxn,hnp⟩:=Sx.numX_parts hnum
 have Hr:=Sx.sizeX_parts x
 obtain⟨At,ct,An,cn,Ap,cp,rfl,htt,hnn,hp,hn0,hn1⟩:=ht.agg
 unfold Sx.shapeX at hsh
 simp only[Bool.and_eq_true]at hsh
 obtain⟨h1,h2,h3,h4,h5⟩:=hsh
 rw[hkd]at h3 h4 h5
 have Hw:1≤x.parts.length:=by simp at h5;omega
 have H5:0<x.parts.length:=by omega
 obtain⟨g,off,Atp,ctp,Anp,cnp,App,cpp,rfl,hty0,hc0⟩:=hp.spot 0 H5
 obtain⟨p,hpe⟩:=zE (x.parts[0]'H5)
 have H1:p∈x.parts:=by rw[←hpe];exact List.getElem_mem H5
 rw[hpe]at hty0 hc0
 rw[Nat.zero_mul,Nat.add_zero]at hc0
 have Hh:=zh hty0
 have Ht:=zh hc0
 have Hd:=Sx.sizeX_mem H1
 have Ha:=zh (show Sx.sizeX p≤n∧Sx.okX p∧Sx.numX p from⟨by omega,hrp p H1,hnp p H1⟩)
 have Hx:(0:Int)<(x.parts.length:Int):=by omega
 have H4:=zh (show(Sx.part 7 p).length≤20000000 by have:=Sx.part_len 7 p;omega)
 have Hn:=zh (Sx.part_pos 7 Ha.o.2.1)
 obtain⟨V,hV⟩:=zE (sliced (some ⟨g,off,none⟩) 1 x.parts.length cp 7)
 have H8:∀w,(Instr.slice 37 (.slice (some ⟨g,off,none⟩) x.parts.length cp) (some (.int .i64 1)) none none).run Tryz.prog w=.ok V w:=fun w=>by rw[zeqZ _ _ _ _ (by omega),hV]
 have Hv:ExRow W V x.parts.tail:=by rw[←hV];exact hp.tail H5
 have Hl:∀y∈x.parts.tail,y∈x.parts:=fun y hy=>List.mem_of_mem_tail hy
 have Hz:Sx.sizeXs x.parts.tail≤Sx.sizeXs x.parts:=by
  generalize x.parts=ll
  cases ll with
  | nil=>exact Nat.le_refl _
  | cons y l=>rw[List.tail_cons,Sx.sizeXs];omega
 have H3:=zh (show Sx.sizeXs x.parts.tail≤n∧(∀y∈x.parts.tail,Sx.okX y)∧(∀y∈x.parts.tail,Sx.numX y)∧ExRow W V x.parts.tail from⟨by omega,fun y hy=>hrp y (Hl y hy),fun y hy=>hnp y (Hl y hy),Hv⟩)
 have Hf:=zh (show(Sx.listed x.parts.tail).length≤20000000 by
  unfold Sx.listed
  have:=Sx.list_len SY 0 x.parts.tail
  simp only[List.length_append,List.length_cons,List.length_nil]
  omega)
 have Hg:=zh (show 0<(Sx.listed x.parts.tail).length by unfold Sx.listed;exact zbgZ (Nat.succ_pos _))
 have He:=Sx.args_tail H5
 obtain⟨tl,htl⟩:=zE (x.parts.tail)
 rw[htl]at H3 Hf Hg He
 have HT:=zh (show Sx.expr SY x=(if p.kind=9 then [[40]]++Sx.part 7 p++[[41]]else Sx.part 7 p)++Sx.listed tl by
  rw[Sx.expr_eq,hkd]
  simp only[Int.reduceEq,Int.reduceLE,if_true,if_false,or_false,false_or,or_true,true_or,reduceIte,Nat.reduceEqDiff,and_true,true_and,and_false,false_and]
  rw[Sx.applied_head H5,hpe,He]
  by_cases h9:p.kind=9
  ·rw[if_pos h9,if_pos h9]
   unfold Sx.part
   rw[h9,show Sx.level 9=7 from rfl,if_neg (by omega)]
   rfl
  ·rw[if_neg h9,if_neg h9])
 have Hk:=zh ih
 have Hq:=zh (show Sx.sizeX x≤n+1∧n+1≤1000000 from⟨hsz,hn⟩)
 rw[hkd]
 obtain⟨L,B,w2,hL,hw2,hB,HX⟩:=boxed hG hN #[.int .i64 x.pos,.int .i64 11,.int .i64 x.n,.string ⟨x.s.toArray⟩,.slice At x.t.length ct,.slice An x.names.length cn,.slice (some ⟨g,off,none⟩) x.parts.length cp]
 obtain⟨x0,x1,x2,x3,x4,x5,x6⟩:=zbZ HX.o.box
 have Hc:=zaZ HX.o.box
 clear hG hN  ih hsz hn ht htt hnn hp hn0 hn1 hrp hnp hok hnum h1 h2 h4 h5 hkd Hr h3 hpe Hw hty0 hc0 H1 Hd hV Hv Hl Hz htl He
 go_enter Tryz.func34, Tryz.ntmps34
 obtain⟨hg,c0,c1,c2,c3,c4,c5,c6⟩:=Ht.o w2 (HX.o.wx w2 HX.o.r2)
 go_upto_region 35 with(go_at_call 78;refine(zcbZ n (by have:=Hq.o;omega) Hk.o p Ha.o.1 Ha.o.2.1 Ha.o.2.2 7 (by omega) _ w2 (HX.o.gx w2 HX.o.r2).1 (HX.o.gx w2 HX.o.r2).2 (IsEx.below (HX.o.wx w2 HX.o.r2) _ _ Hh.o)).mono ?_;rintro e w3 ⟨u3,rfl,Hb,Hm⟩;obtain⟨A3,e3,rfl⟩:=Hb.slice;rw[hB]at Hb Hm;have Hs:=zh Hb;have H6:=zh Hm;clear Hb Hm x0 x1 x2 x3 x4 x5 x6 Hc hg c0 c1 c2 c3 c4 c5 c6)
 obtain⟨x0,x1,x2,x3,x4,x5,x6⟩:=zbZ (HX.o.bx w3 H6.o)
 have Hc:=zaZ (HX.o.bx w3 H6.o)
 obtain⟨hg,c0,c1,c2,c3,c4,c5,c6⟩:=Ht.o w3 (HX.o.wx w3 H6.o)
 by_cases h9:p.kind=9
 ·rw[if_pos h9]at HT
  have Hi:(p.kind==9)=true:=by rw[h9];rfl
  have Hj:=zh Hs.o.row
  obtain⟨B3,hB3⟩:=zE (w3.heap.size)
  have Ho:=zh hB3
  have H2:=zh (show B3≤w3.heap.size by rw[hB3];exact Nat.le_refl _)
  have H7:=zh (show B≤B3 by rw[←hB3];exact Nat.le_trans HX.o.bb H6.o.size)
  go_upto_region 36 with fail
  clear x0 x1 x2 x3 x4 x5 x6 Hc hg c0 c1 c2 c3 c4 c5 c6 Hi
  have hB0:Below B3 w3 w3:=Below.refl _ _
  have hO0:OwnS w3 B3 (.slice none 0 0) []:=World.ownsRow_nil _ _ _ _
  obtain⟨Fs,hFs⟩:∃F:List (Value→World→Value→Nat→Prop),[AppF 0,StrF (Sx.part 7 p),AppF 1,StrF [[41]],AppF 2,AppF 2]=F:=⟨_,rfl⟩
  obtain⟨F0,F1,F2,F3,F4,F5,-⟩:=zwZ hFs
  have H0:AllStay RowM Fs:=by rw[←hFs];repeat (first | exact .nil | refine .cons (by first | exact IsF.stays | exact AppF.stays | exact StrF.stays) ?_)
  obtain⟨Lf,hLf⟩:∃f:Nat→List Lx.Bytes,(fun k=>([[],[[40]],[[40]]++(Sx.part 7 p),[[40]]++(Sx.part 7 p)++[[41]]]:List (List Lx.Bytes)).getD k [])=f:=⟨_,rfl⟩
  have L0:Lf 0=[]:=by rw[←hLf];rfl
  have L1:Lf 1=[[40]]:=by rw[←hLf];rfl
  have L2:Lf 2=[[40]]++(Sx.part 7 p):=by rw[←hLf];rfl
  have L3:Lf 3=[[40]]++(Sx.part 7 p)++[[41]]:=by rw[←hLf];rfl
  clear hFs hLf
  refine zqZ [0,2,4] (RowI B3 w3 (.slice none 0 0) Lf) RowM Fs (.slice none 0 0) (by kernel_rfl) (by kernel_rfl) (by kernel_rfl) (by kernel_rfl) (by kernel_rfl) H0 (n:=6) (by kernel_rfl) ⟨hB0,by rw[L0];exact hO0,fun _=>rfl⟩ ?_ ?_
  ·repeat' first | refine OpsOk.cons ?_ ?_ | fail
   ·refine OpOk.hone rfl rfl F0 H2.o L1 (by simp[maxLen]) fun ρ w r k E hI K hK=>?_
    have c:=E.c
    go_simp
    exact hK _ rfl
   ·exact OpOk.rowv (v:=.slice A3 (Sx.part 7 p).length e3) rfl rfl F1 rfl Hj.o Ho.o fun ρ w r k E=>E.z 5 5 [4,2,1] (by kernel_rfl)
   ·exact OpOk.appN (j:=0) (s:=130) (x:=131) (p:=0) (q:=1) rfl rfl rfl F2 L1 L2 rfl (by exact Hn.o) (by(have h1:=H4.o;simp only[List.length_append,List.length_cons,List.length_nil]at *;omega)) H2.o F0 (by kernel_rfl) F1 (by kernel_rfl)
   ·refine OpOk.one rfl rfl F3 H2.o fun ρ w r k E hI K hK=>?_
    have c:=E.c
    go_simp
    exact hK _ rfl
   ·exact OpOk.appN (j:=1) (s:=132) (x:=133) (p:=2) (q:=3) rfl rfl rfl F4 L2 L3 rfl (by simp) (by(have h1:=H4.o;simp only[List.length_append,List.length_cons,List.length_nil]at *;omega)) H2.o F2 (by kernel_rfl) F3 (by kernel_rfl)
   ·exact OpOk.asg rfl rfl F5 F4 rfl (by kernel_rfl)
   ·exact .nil
  ·intro uq wq rq hI hF
   have f5:uq 5=rq:=((zmZ F5 (hF 5 (by decide))).2 rfl).symm
   have hBz:=hI.1
   have hOz:=hI.2.1
   rw[show([0,2,4]:List Nat).length=3 from rfl,L3]at hOz
   simp only[List.toList_toArray,fillAct,Act.put,List.setIfInBounds_toArray,List.set_cons_zero,List.set_cons_succ,f5]
   clear hI hF F0 F1 F2 F3 F4 F5 H0 L0 L1 L2 L3
   obtain⟨A9,c9,rfl⟩:=hOz.slice
   have H9:=zh (hOz.base_le H7.o)
   have Hp:=zh (H6.o.trans (hBz.mono H7.o))
   clear hOz hBz
   go_upto_region 37 with fail
   have hB0:Below B w2 wq:=Hp.o
   have hO0:OwnS wq B (.slice A9 ([[40]]++Sx.part 7 p++[[41]]).length c9) ([[40]]++Sx.part 7 p++[[41]]):=H9.o
   obtain⟨Fs,hFs⟩:∃F:List (Value→World→Value→Nat→Prop),[IsF (.slice A9 ([[40]]++Sx.part 7 p++[[41]]).length c9),IsF (.pointer (some ⟨L,6,none⟩)),IsF (.slice (some ⟨g,off,none⟩) x.parts.length cp),IsF (V),StrF (Sx.listed tl),AppF 0,AppF 0]=F:=⟨_,rfl⟩
   obtain⟨F0,F1,F2,F3,F4,F5,F6,-⟩:=zwZ hFs
   have H0:AllStay RowM Fs:=by rw[←hFs];repeat (first | exact .nil | refine .cons (by first | exact IsF.stays | exact AppF.stays | exact StrF.stays) ?_)
   obtain⟨Lf,hLf⟩:∃f:Nat→List Lx.Bytes,(fun k=>([([[40]]++Sx.part 7 p++[[41]]),([[40]]++Sx.part 7 p++[[41]])++(Sx.listed tl)]:List (List Lx.Bytes)).getD k [])=f:=⟨_,rfl⟩
   have L0:Lf 0=([[40]]++Sx.part 7 p++[[41]]):=by rw[←hLf];rfl
   have L1:Lf 1=([[40]]++Sx.part 7 p++[[41]])++(Sx.listed tl):=by rw[←hLf];rfl
   clear hFs hLf
   refine zqZ [5] (RowI B w2 (.slice A9 ([[40]]++Sx.part 7 p++[[41]]).length c9) Lf) RowM Fs (.slice A9 ([[40]]++Sx.part 7 p++[[41]]).length c9) (by kernel_rfl) (by kernel_rfl) (by kernel_rfl) (by kernel_rfl) (by kernel_rfl) H0 (n:=7) (by kernel_rfl) ⟨hB0,by rw[L0];exact hO0,fun _=>rfl⟩ ?_ ?_
   ·repeat' first | refine OpsOk.cons ?_ ?_ | fail
    ·exact OpOk.mov rfl rfl F0 RowM.rf rfl fun ρ w r k E=>E.n 5 (by kernel_rfl)
    ·exact OpOk.fldB HX.o rfl rfl F1 rfl rfl fun ρ w r k E=>E.n 1 (by kernel_rfl)
    ·exact OpOk.ldB HX.o rfl rfl F2 F1 rfl rfl (by kernel_rfl) rfl
    ·refine OpOk.val rfl rfl F3 RowM.rf fun ρ w r k E hI K hK=>?_
     have e137:=E.e 137 2 (by kernel_rfl) F2
     have c:=E.c
     have hr:=H8 w
     go_simp
     exact hK
    ·exact OpOk.call rfl rfl F4 HX.o.bb rfl Tryz.func79 (by kernel_rfl) rfl (fun ρ w r k E=>by simp only[List.map_toArray,List.map_cons,List.map_nil,E.e 138 3 (by kernel_rfl) F3]) fun w hb=>zgwZ n (by have:=Hq.o;omega) Hk.o tl H3.o.1 H3.o.2.1 H3.o.2.2.1 _ w (HX.o.gx w hb).1 (HX.o.gx w hb).2 (H3.o.2.2.2.below (HX.o.wx w hb))
    ·exact OpOk.app0 (s:=135) (x:=139) (q0:=0) (q:=4) rfl rfl rfl F5 L0 L1 rfl (by exact Hg.o) (by(have h1:=H4.o;have h2:=Hf.o;(try simp only[List.length_append,List.length_cons,List.length_nil]at *);omega)) HX.o.bb F0 (by kernel_rfl) F4 (by kernel_rfl)
    ·exact OpOk.asg rfl rfl F6 F5 rfl (by kernel_rfl)
    ·exact .nil
   ·intro uq wq rq hI hF
    have f6:uq 6=rq:=((zmZ F6 (hF 6 (by decide))).2 rfl).symm
    have hBz:=hI.1
    have hOz:=hI.2.1
    rw[show([5]:List Nat).length=1 from rfl,L1]at hOz
    simp only[List.toList_toArray,fillAct,Act.put,List.setIfInBounds_toArray,List.set_cons_zero,List.set_cons_succ,f6]
    clear hI hF F0 F1 F2 F3 F4 F5 F6 H0 L0 L1
    have Hu:=zh hOz
    have Hy:=zh hBz
    clear hOz hBz
    go_wp2_with fail
    go_ret
    exact⟨_,rfl,by rw[HT.o];first | exact Hu.o.base_le HX.o.wb | simpa[List.append_assoc]using Hu.o.base_le HX.o.wb,HX.o.wx _ Hy.o⟩
 ·rw[if_neg h9]at HT
  have Hi:(p.kind==9)=false:=by rw[beq_eq_false_iff_ne];exact h9
  go_upto_region 37 with fail
  clear x0 x1 x2 x3 x4 x5 x6 Hc hg c0 c1 c2 c3 c4 c5 c6 Hi
  have hB0:Below B w2 w3:=H6.o
  have hO0:OwnS w3 B (.slice A3 (Sx.part 7 p).length e3) (Sx.part 7 p):=Hs.o
  obtain⟨Fs,hFs⟩:∃F:List (Value→World→Value→Nat→Prop),[IsF (.slice A3 (Sx.part 7 p).length e3),IsF (.pointer (some ⟨L,6,none⟩)),IsF (.slice (some ⟨g,off,none⟩) x.parts.length cp),IsF (V),StrF (Sx.listed tl),AppF 0,AppF 0]=F:=⟨_,rfl⟩
  obtain⟨F0,F1,F2,F3,F4,F5,F6,-⟩:=zwZ hFs
  have H0:AllStay RowM Fs:=by rw[←hFs];repeat (first | exact .nil | refine .cons (by first | exact IsF.stays | exact AppF.stays | exact StrF.stays) ?_)
  obtain⟨Lf,hLf⟩:∃f:Nat→List Lx.Bytes,(fun k=>([(Sx.part 7 p),(Sx.part 7 p)++(Sx.listed tl)]:List (List Lx.Bytes)).getD k [])=f:=⟨_,rfl⟩
  have L0:Lf 0=(Sx.part 7 p):=by rw[←hLf];rfl
  have L1:Lf 1=(Sx.part 7 p)++(Sx.listed tl):=by rw[←hLf];rfl
  clear hFs hLf
  refine zqZ [5] (RowI B w2 (.slice A3 (Sx.part 7 p).length e3) Lf) RowM Fs (.slice A3 (Sx.part 7 p).length e3) (by kernel_rfl) (by kernel_rfl) (by kernel_rfl) (by kernel_rfl) (by kernel_rfl) H0 (n:=7) (by kernel_rfl) ⟨hB0,by rw[L0];exact hO0,fun _=>rfl⟩ ?_ ?_
  ·repeat' first | refine OpsOk.cons ?_ ?_ | fail
   ·exact OpOk.mov rfl rfl F0 RowM.rf rfl fun ρ w r k E=>E.n 5 (by kernel_rfl)
   ·exact OpOk.fldB HX.o rfl rfl F1 rfl rfl fun ρ w r k E=>E.n 1 (by kernel_rfl)
   ·exact OpOk.ldB HX.o rfl rfl F2 F1 rfl rfl (by kernel_rfl) rfl
   ·refine OpOk.val rfl rfl F3 RowM.rf fun ρ w r k E hI K hK=>?_
    have e137:=E.e 137 2 (by kernel_rfl) F2
    have c:=E.c
    have hr:=H8 w
    go_simp
    exact hK
   ·exact OpOk.call rfl rfl F4 HX.o.bb rfl Tryz.func79 (by kernel_rfl) rfl (fun ρ w r k E=>by simp only[List.map_toArray,List.map_cons,List.map_nil,E.e 138 3 (by kernel_rfl) F3]) fun w hb=>zgwZ n (by have:=Hq.o;omega) Hk.o tl H3.o.1 H3.o.2.1 H3.o.2.2.1 _ w (HX.o.gx w hb).1 (HX.o.gx w hb).2 (H3.o.2.2.2.below (HX.o.wx w hb))
   ·exact OpOk.app0 (s:=135) (x:=139) (q0:=0) (q:=4) rfl rfl rfl F5 L0 L1 rfl (by exact Hg.o) (by(have h1:=H4.o;have h2:=Hf.o;(try simp only[List.length_append,List.length_cons,List.length_nil]at *);omega)) HX.o.bb F0 (by kernel_rfl) F4 (by kernel_rfl)
   ·exact OpOk.asg rfl rfl F6 F5 rfl (by kernel_rfl)
   ·exact .nil
  ·intro uq wq rq hI hF
   have f6:uq 6=rq:=((zmZ F6 (hF 6 (by decide))).2 rfl).symm
   have hBz:=hI.1
   have hOz:=hI.2.1
   rw[show([5]:List Nat).length=1 from rfl,L1]at hOz
   simp only[List.toList_toArray,fillAct,Act.put,List.setIfInBounds_toArray,List.set_cons_zero,List.set_cons_succ,f6]
   clear hI hF F0 F1 F2 F3 F4 F5 F6 H0 L0 L1
   have H9:=zh hOz
   have Hp:=zh hBz
   clear hOz hBz
   go_wp2_with fail
   go_ret
   exact⟨_,rfl,by rw[HT.o];first | exact H9.o.base_le HX.o.wb | simpa[List.append_assoc]using H9.o.base_le HX.o.wb,HX.o.wx _ Hp.o⟩
theorem told7 (n:Nat) (hn:n+1≤1000000) (ih:ToldOk n) (x:Sx.Ex) (hsz:Sx.sizeX x≤n+1) (hok:Sx.okX x) (hnum:Sx.numX x) (hkd:x.kind=7) (v:Value) (W:World) (hG:GL W) (hN:NG≤W.heap.size) (ht:IsEx W v x):ToldIs x v W:=by
 unfold ToldIs
 obtain⟨hsh,J2⟩:=hok.shape
 obtain⟨hxn,J1⟩:=Sx.numX_parts hnum
 have Hs:=Sx.sizeX_parts x
 obtain⟨At,ct,An,cn,Ap,cp,rfl,htt,hnn,hp,hn0,hn1⟩:=ht.agg
 unfold Sx.shapeX at hsh
 simp only[Bool.and_eq_true]at hsh
 obtain⟨h1,h2,h3,h4,h5⟩:=hsh
 rw[hkd]at h3 h4 h5
 have J4:x.names.length=x.parts.length:=by simp at h5;omega
 have Ht:=zh J4
 have Hv:=zh (And.intro J2 J1)
 have HP:=zh hp
 have Ja:=zh hnn
 obtain⟨k,hk⟩:=zE (x.parts.length)
 have Hm:=zh (show Sx.sizeXs x.parts≤n by omega)
 have Jh:=Sx.length_sizeXs x.parts
 have Jl:(k:Int)≤1000000:=by omega
 have HK:=zh hk
 have Ho:x.names.length=k:=by omega
 have H0:=zh (show([x.s,[123]]).length≤50 by simp)
 have HT:=zh (show Sx.expr SY x=[x.s,[123]]++Sx.record SY 0 x.names x.parts++[[125]]by
  rw[Sx.expr_eq,hkd]
  simp only[Int.reduceEq,Int.reduceLE,if_true,if_false,or_false,false_or,or_true,true_or,reduceIte,Nat.reduceEqDiff,and_true,true_and,and_false,false_and]
  try rfl)
 have Hw:=zh ih
 have J6:=zh (show Sx.sizeX x≤n+1∧n+1≤1000000 from⟨hsz,hn⟩)
 rw[hkd]
 obtain⟨L,B,w2,hL,hw2,hB,HX⟩:=boxed hG hN #[.int .i64 x.pos,.int .i64 7,.int .i64 x.n,.string ⟨x.s.toArray⟩,.slice At x.t.length ct,.slice An x.names.length cn,.slice Ap x.parts.length cp]
 obtain⟨x0,x1,x2,x3,x4,x5,x6⟩:=zbZ HX.o.box
 have Jj:=zaZ HX.o.box
 clear hG hN  ih hsz hn ht htt hnn hp hn0 hn1 J2 J1 hok hnum h1 h2 h4 h5 hkd Hs h3 J4 Jh hk Ho
 go_enter Tryz.func34, Tryz.ntmps34
 rw[HK.o]at x6
 have Hc:OwnS w2 B (.slice none 0 0) []:=World.ownsRow_nil _ _ _ _
 have He:=zh Hc
 clear Hc
 go_upto_region 21 with fail
 obtain⟨wa,hwa⟩:=zE (w2.alloc (.cells #[.string ⟨x.s.toArray⟩,.string ⟨#[123]⟩] 9))
 have H5:OwnS wa B (.slice none 0 0) ([]):=by rw[←hwa];exact He.o.below ((Below.refl _ _).alloc (Nat.le_refl _) _)
 have H4:Below B w2 wa:=by rw[←hwa];exact(HX.o.r2).alloc (Nat.le_trans HX.o.bb (HX.o.r2).size) _
 have H3:Str wa (.slice (some ⟨B,0,none⟩) 2 2) [x.s,[123]] (.slice none 0 0):=by rw[←hwa];rw[←hB];exact Str.arr (m:=[x.s,[123]]) (heap_alloc_new w2 _) rfl (fun q hq=>(He.o.lt q hq).2)
 have Hd:=zh H5
 have H7:=zh H4
 have Hp:=zh H3
 clear H5 H4 H3
 go_wp2_with (at_builtin;refine zpZ rfl _ _ rfl rfl rfl Hd.o Hp.o (by simp) (by have:=H0.o;simp only[List.length_append,List.length_cons,List.length_nil]at *;omega) (Nat.le_trans HX.o.bb H7.o.size) ?_;intro rb wb hO5 H6;have hB5:=zzZ H7.o (Nat.le_trans HX.o.bb H7.o.size) H6 (fun g hg=>(Hd.o.lt g hg).1);have J3:=zh hO5;have Jc:=zh hB5;clear hO5 hB5 H6 x0 x1 x2 x3 x4 x5 x6 Jj)
 obtain⟨Ab,cb,rfl⟩:=J3.o.slice
 have J9:=zh (show OwnS wb B (.slice Ab ([]++[x.s,[123]]:List Lx.Bytes).length cb) ([x.s,[123]]++Sx.record SY 0 (x.names.take 0) (x.parts.take 0))by have:=J3.o;simpa[Sx.record]using this)
 go_loopg [3,4] k (fun i v3 v4 wr=>∃(m:Nat) (A5:Option Addr) (n5 c5:Nat),i=k-m∧v3=.slice A5 n5 c5∧v4=.int .i64 (m:Nat)∧m≤k∧OwnS wr B (.slice A5 n5 c5) ([x.s,[123]]++Sx.record SY 0 (x.names.take m) (x.parts.take m))∧Below B w2 wr)
 case atStart=>exact⟨0,Ab,_,cb,rfl,rfl,rfl,Nat.zero_le _,J9.o,Jc.o⟩
 case round=>
  obtain⟨m,A5,n5,c5,hi,rfl,rfl,hm,ho,hb⟩:=hrel
  have HI:=zh hi
  have HO:=zh ho
  have H9:=zh hb
  have m0:(0:Int)≤(m:Int):=by omega
  have m1:(m:Int)≤1000000:=by omega
  clear hi ho hb H0
  obtain⟨x0,x1,x2,x3,x4,x5,x6⟩:=zbZ (HX.o.bx wr H9.o)
  rw[HK.o]at x6
  have J5:=zaZ (HX.o.bx wr H9.o)
  by_cases hlt:m<k
  ·have Jg:(m:Int)<(k:Int):=by omega
   have Jk:IntKind.i64.wrap ((m:Int)+1)=(m:Int)+1:=by rw[IntKind.wrap_i64];omega
   have Hi:m<x.parts.length:=by have:=HK.o;omega
   have J0:m<x.names.length:=by have:=Ht.o;omega
   have J7:(m:Int)<(x.names.length:Int):=by omega
   have H1:=List.getElem_mem Hi
   have Hl:=Sx.record_take Ht.o Hi
   obtain⟨g,off,Atp,ctp,Anp,cnp,App,cpp,rfl,hty,hc5⟩:=HP.o.spot m Hi
   obtain⟨g1,off1,rfl,hsp1⟩:=Ja.o.spot m J0
   obtain⟨p,hpe⟩:=zE (x.parts[m]'Hi)
   obtain⟨s,hse⟩:=zE (x.names[m]'J0)
   rw[hpe]at hty hc5 Hl H1
   rw[hse]at hsp1 Hl
   have Ji:=Sx.sizeX_mem H1
   have Je:=Sx.sizeXs_take_le x.parts m
   have Hb:=zh (show Sx.sizeX p≤n∧Sx.okX p∧Sx.numX p from⟨by have:=Hm.o;omega,Hv.o.1 p H1,Hv.o.2 p H1⟩)
   have Hg:=zh (Sx.expr_pos (Hv.o.1 p H1))
   have H0:=zh (show([x.s,[123]]++Sx.record SY 0 (x.names.take m) (x.parts.take m)).length+(Sx.expr SY p).length≤50000000 by
    have h1:=Sx.record_len SY 0 (x.names.take m) (x.parts.take m)
    have h2:=Sx.expr_len SY p
    have h3:=J6.o
    have h4:=Hm.o
    simp only[List.length_append,List.length_cons,List.length_nil]
    omega)
   have Hy:=zh hty
   have Hj:=zh hc5
   have Hx:=zh Hl
   have Hk:=zh hsp1
   clear hty hc5 Hl H1 Ji Je hpe hse hsp1
   by_cases hz:0<m
   ·have Jf:(0:Int)<(m:Int):=by omega
    obtain⟨wa,hwa⟩:=zE (wr.alloc (.cells #[.string ⟨#[44]⟩] 9))
    have H5:OwnS wa B (.slice A5 n5 c5) ([x.s,[123]]++Sx.record SY 0 (x.names.take m) (x.parts.take m)):=by rw[←hwa];exact HO.o.below ((Below.refl _ _).alloc (Nat.le_refl _) _)
    have H4:Below B w2 wa:=by rw[←hwa];exact(H9.o).alloc (Nat.le_trans HX.o.bb (H9.o).size) _
    have H3:Str wa (.slice (some ⟨wr.heap.size,0,none⟩) 1 1) [[44]] (.slice A5 n5 c5):=by rw[←hwa];exact Str.arr (m:=[[44]]) (heap_alloc_new wr _) rfl (fun q hq=>(HO.o.lt q hq).2)
    have Hh:=zh H5
    have Ha:=zh H4
    have Hu:=zh H3
    clear H5 H4 H3
    go_wp2_with (at_builtin;refine zpZ rfl _ _ rfl rfl rfl Hh.o Hu.o (by simp) (by have:=H0.o;simp only[List.length_append,List.length_cons,List.length_nil]at *;omega) (Nat.le_trans HX.o.bb Ha.o.size) ?_;intro rc wc hO5 H6;have hB5:=zzZ Ha.o (Nat.le_trans HX.o.bb Ha.o.size) H6 (fun g hg=>(Hh.o.lt g hg).1);have Hz:=zh hO5;have Jd:=zh hB5;clear hO5 hB5 H6)
    obtain⟨Ac,cc,rfl⟩:=Hz.o.slice
    clear x0 x1 x2 x3 x4 x5 x6 J5
    have hB0:Below B w2 wc.drew:=(Jd.o).drew
    have hO0:OwnS wc.drew B (.slice Ac (([x.s,[123]]++Sx.record SY 0 (x.names.take m) (x.parts.take m))++[[44]]).length cc) (([x.s,[123]]++Sx.record SY 0 (x.names.take m) (x.parts.take m))++[[44]]):=Hz.o
    obtain⟨Fs,hFs⟩:∃F:List (Value→World→Value→Nat→Prop),[IsF (.slice Ac (([x.s,[123]]++Sx.record SY 0 (x.names.take m) (x.parts.take m))++[[44]]).length cc),IsF (.pointer (some ⟨L,5,none⟩)),IsF (.slice (some ⟨g1,off1,none⟩) x.names.length cn),IsF (.int .i64 (m:Int)),IsF (.pointer (some ⟨g1,off1+m,none⟩)),IsF (.string ⟨s.toArray⟩),StrF [s,[58]],AppF 0,IsF (.pointer (some ⟨L,6,none⟩)),IsF (.slice (some ⟨g,off,none⟩) k cp),IsF (.int .i64 (m:Int)),IsF (.pointer (some ⟨g,off+m * 7,none⟩)),IsF (.agg #[.int .i64 p.pos,.int .i64 p.kind,.int .i64 p.n,.string ⟨p.s.toArray⟩,.slice Atp p.t.length ctp,.slice Anp p.names.length cnp,.slice App p.parts.length cpp]),StrF (Sx.expr SY p),AppF 1,AppF 1]=F:=⟨_,rfl⟩
    obtain⟨F0,F1,F2,F3,F4,F5,F6,F7,F8,F9,F10,F11,F12,F13,F14,F15,-⟩:=zwZ hFs
    have H2:AllStay RowM Fs:=by rw[←hFs];repeat (first | exact .nil | refine .cons (by first | exact IsF.stays | exact AppF.stays | exact StrF.stays) ?_)
    obtain⟨Lf,hLf⟩:∃f:Nat→List Lx.Bytes,(fun k=>([(([x.s,[123]]++Sx.record SY 0 (x.names.take m) (x.parts.take m))++[[44]]),(([x.s,[123]]++Sx.record SY 0 (x.names.take m) (x.parts.take m))++[[44]])++[s,[58]],(([x.s,[123]]++Sx.record SY 0 (x.names.take m) (x.parts.take m))++[[44]])++[s,[58]]++(Sx.expr SY p)]:List (List Lx.Bytes)).getD k [])=f:=⟨_,rfl⟩
    have L0:Lf 0=(([x.s,[123]]++Sx.record SY 0 (x.names.take m) (x.parts.take m))++[[44]]):=by rw[←hLf];rfl
    have L1:Lf 1=(([x.s,[123]]++Sx.record SY 0 (x.names.take m) (x.parts.take m))++[[44]])++[s,[58]]:=by rw[←hLf];rfl
    have L2:Lf 2=(([x.s,[123]]++Sx.record SY 0 (x.names.take m) (x.parts.take m))++[[44]])++[s,[58]]++(Sx.expr SY p):=by rw[←hLf];rfl
    clear hFs hLf
    refine zoZ (by kernel_rfl) [7,14] (RowI B w2 (.slice Ac (([x.s,[123]]++Sx.record SY 0 (x.names.take m) (x.parts.take m))++[[44]]).length cc) Lf) RowM Fs (.slice Ac (([x.s,[123]]++Sx.record SY 0 (x.names.take m) (x.parts.take m))++[[44]]).length cc) (by kernel_rfl) (by kernel_rfl) (by kernel_rfl) (by kernel_rfl) (by kernel_rfl) H2 (n:=16) (by kernel_rfl) ⟨hB0,by rw[L0];exact hO0,fun _=>rfl⟩ ?_ ?_
    ·repeat' first | refine OpsOk.cons ?_ ?_ | fail
     ·exact OpOk.mov rfl rfl F0 RowM.rf rfl fun ρ w r k E=>E.z 3 15 [14,7,0] (by kernel_rfl)
     ·exact OpOk.fldB HX.o rfl rfl F1 rfl rfl fun ρ w r k E=>E.n 1 (by kernel_rfl)
     ·exact OpOk.ldB HX.o rfl rfl F2 F1 rfl rfl (by kernel_rfl) (by first | rfl | (rw[←HK.o];rfl))
     ·exact OpOk.mov rfl rfl F3 RowM.rf rfl fun ρ w r k E=>E.n 4 (by kernel_rfl)
     ·refine OpOk.val rfl rfl F4 RowM.rf fun ρ w r k E hI K hK=>?_
      have e74:=E.e 74 2 (by kernel_rfl) F2
      have e75:=E.e 75 3 (by kernel_rfl) F3
      obtain⟨q0,q1⟩:=Hk.o w (HX.o.wx w hI.1)
      go_simp
      exact hK
     ·refine OpOk.val rfl rfl F5 RowM.rf fun ρ w r k E hI K hK=>?_
      have e76:=E.e 76 4 (by kernel_rfl) F4
      obtain⟨q0,q1⟩:=Hk.o w (HX.o.wx w hI.1)
      go_simp
      exact hK
     ·refine OpOk.one rfl rfl F6 HX.o.bb fun ρ w r k E hI K hK=>?_
      have e77:=E.e 77 5 (by kernel_rfl) F5
      have c:=E.c
      go_simp
      exact hK _ rfl
     ·exact OpOk.app0 (s:=72) (x:=78) (q0:=0) (q:=6) rfl rfl rfl F7 L0 L1 rfl (by simp) (by(have h1:=H0.o;simp only[List.length_append,List.length_cons,List.length_nil]at *;omega)) HX.o.bb F0 (by kernel_rfl) F6 (by kernel_rfl)
     ·exact OpOk.fldB HX.o rfl rfl F8 rfl rfl fun ρ w r k E=>E.n 1 (by kernel_rfl)
     ·exact OpOk.ldB HX.o rfl rfl F9 F8 rfl rfl (by kernel_rfl) (by first | rfl | (rw[←HK.o];rfl))
     ·exact OpOk.mov rfl rfl F10 RowM.rf rfl fun ρ w r k E=>E.n 4 (by kernel_rfl)
     ·refine OpOk.val rfl rfl F11 RowM.rf fun ρ w r k E hI K hK=>?_
      have e81:=E.e 81 9 (by kernel_rfl) F9
      have e82:=E.e 82 10 (by kernel_rfl) F10
      obtain⟨hg,c0,c1,c2,c3,c4,c5,c6⟩:=Hj.o w (HX.o.wx w hI.1)
      go_simp
      exact hK
     ·refine OpOk.val rfl rfl F12 RowM.rf fun ρ w r k E hI K hK=>?_
      have e83:=E.e 83 11 (by kernel_rfl) F11
      obtain⟨hg,c0,c1,c2,c3,c4,c5,c6⟩:=Hj.o w (HX.o.wx w hI.1)
      go_simp
      exact hK
     ·exact OpOk.call rfl rfl F13 HX.o.bb rfl Tryz.func34 (by kernel_rfl) rfl (fun ρ w r k E=>by simp only[List.map_toArray,List.map_cons,List.map_nil,E.e 84 12 (by kernel_rfl) F12]) fun w hb=>Hw.o p Hb.o.1 Hb.o.2.1 Hb.o.2.2 _ w (HX.o.gx w hb).1 (HX.o.gx w hb).2 (IsEx.below (HX.o.wx w hb) _ _ Hy.o)
     ·exact OpOk.appN (j:=0) (s:=79) (x:=85) (p:=7) (q:=13) rfl rfl rfl F14 L1 L2 rfl (by exact Hg.o) (by(have h1:=H0.o;simp only[List.length_append,List.length_cons,List.length_nil]at *;omega)) HX.o.bb F7 (by kernel_rfl) F13 (by kernel_rfl)
     ·exact OpOk.asg rfl rfl F15 F14 rfl (by kernel_rfl)
     ·exact .nil
    ·intro uq wq rq hI hF
     have f15:uq 15=rq:=((zmZ F15 (hF 15 (by decide))).2 rfl).symm
     have hBz:=hI.1
     have hOz:=hI.2.1
     rw[show([7,14]:List Nat).length=2 from rfl,L2]at hOz
     simp only[List.toList_toArray,fillAct,Act.put,List.setIfInBounds_toArray,List.set_cons_zero,List.set_cons_succ,f15]
     clear hI hF F0 F1 F2 F3 F4 F5 F6 F7 F8 F9 F10 F11 F12 F13 F14 F15 H2 L0 L1 L2
     obtain⟨A9,c9,rfl⟩:=hOz.slice
     have Hq:=zh hOz
     have Hr:=zh hBz
     clear hOz hBz
     go_wp2_with fail
     go_roundg (k-(m+1))
     case measure=>have:=HI.o;omega
     case rel=>exact⟨m+1,A9,_,c9,rfl,rfl,by simp,hlt,by rw[Hx.o,if_pos hz];simpa[List.append_assoc]using Hq.o,Hr.o⟩
   ·have Jf:¬(0:Int)<(m:Int):=by omega
    go_wp2_with fail
    clear x0 x1 x2 x3 x4 x5 x6 J5
    have hB0:Below B w2 wr.drew:=(H9.o).drew
    have hO0:OwnS wr.drew B (.slice A5 n5 c5) ([x.s,[123]]++Sx.record SY 0 (x.names.take m) (x.parts.take m)):=HO.o
    obtain⟨Fs,hFs⟩:∃F:List (Value→World→Value→Nat→Prop),[IsF (.slice A5 n5 c5),IsF (.pointer (some ⟨L,5,none⟩)),IsF (.slice (some ⟨g1,off1,none⟩) x.names.length cn),IsF (.int .i64 (m:Int)),IsF (.pointer (some ⟨g1,off1+m,none⟩)),IsF (.string ⟨s.toArray⟩),StrF [s,[58]],AppF 0,IsF (.pointer (some ⟨L,6,none⟩)),IsF (.slice (some ⟨g,off,none⟩) k cp),IsF (.int .i64 (m:Int)),IsF (.pointer (some ⟨g,off+m * 7,none⟩)),IsF (.agg #[.int .i64 p.pos,.int .i64 p.kind,.int .i64 p.n,.string ⟨p.s.toArray⟩,.slice Atp p.t.length ctp,.slice Anp p.names.length cnp,.slice App p.parts.length cpp]),StrF (Sx.expr SY p),AppF 1,AppF 1]=F:=⟨_,rfl⟩
    obtain⟨F0,F1,F2,F3,F4,F5,F6,F7,F8,F9,F10,F11,F12,F13,F14,F15,-⟩:=zwZ hFs
    have H2:AllStay RowM Fs:=by rw[←hFs];repeat (first | exact .nil | refine .cons (by first | exact IsF.stays | exact AppF.stays | exact StrF.stays) ?_)
    obtain⟨Lf,hLf⟩:∃f:Nat→List Lx.Bytes,(fun k=>([([x.s,[123]]++Sx.record SY 0 (x.names.take m) (x.parts.take m)),([x.s,[123]]++Sx.record SY 0 (x.names.take m) (x.parts.take m))++[s,[58]],([x.s,[123]]++Sx.record SY 0 (x.names.take m) (x.parts.take m))++[s,[58]]++(Sx.expr SY p)]:List (List Lx.Bytes)).getD k [])=f:=⟨_,rfl⟩
    have L0:Lf 0=([x.s,[123]]++Sx.record SY 0 (x.names.take m) (x.parts.take m)):=by rw[←hLf];rfl
    have L1:Lf 1=([x.s,[123]]++Sx.record SY 0 (x.names.take m) (x.parts.take m))++[s,[58]]:=by rw[←hLf];rfl
    have L2:Lf 2=([x.s,[123]]++Sx.record SY 0 (x.names.take m) (x.parts.take m))++[s,[58]]++(Sx.expr SY p):=by rw[←hLf];rfl
    clear hFs hLf
    refine zoZ (by kernel_rfl) [7,14] (RowI B w2 (.slice A5 n5 c5) Lf) RowM Fs (.slice A5 n5 c5) (by kernel_rfl) (by kernel_rfl) (by kernel_rfl) (by kernel_rfl) (by kernel_rfl) H2 (n:=16) (by kernel_rfl) ⟨hB0,by rw[L0];exact hO0,fun _=>rfl⟩ ?_ ?_
    ·repeat' first | refine OpsOk.cons ?_ ?_ | fail
     ·exact OpOk.mov rfl rfl F0 RowM.rf rfl fun ρ w r k E=>E.z 3 15 [14,7,0] (by kernel_rfl)
     ·exact OpOk.fldB HX.o rfl rfl F1 rfl rfl fun ρ w r k E=>E.n 1 (by kernel_rfl)
     ·exact OpOk.ldB HX.o rfl rfl F2 F1 rfl rfl (by kernel_rfl) (by first | rfl | (rw[←HK.o];rfl))
     ·exact OpOk.mov rfl rfl F3 RowM.rf rfl fun ρ w r k E=>E.n 4 (by kernel_rfl)
     ·refine OpOk.val rfl rfl F4 RowM.rf fun ρ w r k E hI K hK=>?_
      have e74:=E.e 74 2 (by kernel_rfl) F2
      have e75:=E.e 75 3 (by kernel_rfl) F3
      obtain⟨q0,q1⟩:=Hk.o w (HX.o.wx w hI.1)
      go_simp
      exact hK
     ·refine OpOk.val rfl rfl F5 RowM.rf fun ρ w r k E hI K hK=>?_
      have e76:=E.e 76 4 (by kernel_rfl) F4
      obtain⟨q0,q1⟩:=Hk.o w (HX.o.wx w hI.1)
      go_simp
      exact hK
     ·refine OpOk.one rfl rfl F6 HX.o.bb fun ρ w r k E hI K hK=>?_
      have e77:=E.e 77 5 (by kernel_rfl) F5
      have c:=E.c
      go_simp
      exact hK _ rfl
     ·exact OpOk.app0 (s:=72) (x:=78) (q0:=0) (q:=6) rfl rfl rfl F7 L0 L1 rfl (by simp) (by(have h1:=H0.o;simp only[List.length_append,List.length_cons,List.length_nil]at *;omega)) HX.o.bb F0 (by kernel_rfl) F6 (by kernel_rfl)
     ·exact OpOk.fldB HX.o rfl rfl F8 rfl rfl fun ρ w r k E=>E.n 1 (by kernel_rfl)
     ·exact OpOk.ldB HX.o rfl rfl F9 F8 rfl rfl (by kernel_rfl) (by first | rfl | (rw[←HK.o];rfl))
     ·exact OpOk.mov rfl rfl F10 RowM.rf rfl fun ρ w r k E=>E.n 4 (by kernel_rfl)
     ·refine OpOk.val rfl rfl F11 RowM.rf fun ρ w r k E hI K hK=>?_
      have e81:=E.e 81 9 (by kernel_rfl) F9
      have e82:=E.e 82 10 (by kernel_rfl) F10
      obtain⟨hg,c0,c1,c2,c3,c4,c5,c6⟩:=Hj.o w (HX.o.wx w hI.1)
      go_simp
      exact hK
     ·refine OpOk.val rfl rfl F12 RowM.rf fun ρ w r k E hI K hK=>?_
      have e83:=E.e 83 11 (by kernel_rfl) F11
      obtain⟨hg,c0,c1,c2,c3,c4,c5,c6⟩:=Hj.o w (HX.o.wx w hI.1)
      go_simp
      exact hK
     ·exact OpOk.call rfl rfl F13 HX.o.bb rfl Tryz.func34 (by kernel_rfl) rfl (fun ρ w r k E=>by simp only[List.map_toArray,List.map_cons,List.map_nil,E.e 84 12 (by kernel_rfl) F12]) fun w hb=>Hw.o p Hb.o.1 Hb.o.2.1 Hb.o.2.2 _ w (HX.o.gx w hb).1 (HX.o.gx w hb).2 (IsEx.below (HX.o.wx w hb) _ _ Hy.o)
     ·exact OpOk.appN (j:=0) (s:=79) (x:=85) (p:=7) (q:=13) rfl rfl rfl F14 L1 L2 rfl (by exact Hg.o) (by(have h1:=H0.o;simp only[List.length_append,List.length_cons,List.length_nil]at *;omega)) HX.o.bb F7 (by kernel_rfl) F13 (by kernel_rfl)
     ·exact OpOk.asg rfl rfl F15 F14 rfl (by kernel_rfl)
     ·exact .nil
    ·intro uq wq rq hI hF
     have f15:uq 15=rq:=((zmZ F15 (hF 15 (by decide))).2 rfl).symm
     have hBz:=hI.1
     have hOz:=hI.2.1
     rw[show([7,14]:List Nat).length=2 from rfl,L2]at hOz
     simp only[List.toList_toArray,fillAct,Act.put,List.setIfInBounds_toArray,List.set_cons_zero,List.set_cons_succ,f15]
     clear hI hF F0 F1 F2 F3 F4 F5 F6 F7 F8 F9 F10 F11 F12 F13 F14 F15 H2 L0 L1 L2
     obtain⟨A9,c9,rfl⟩:=hOz.slice
     have Hq:=zh hOz
     have Hr:=zh hBz
     clear hOz hBz
     go_wp2_with fail
     go_roundg (k-(m+1))
     case measure=>have:=HI.o;omega
     case rel=>exact⟨m+1,A9,_,c9,rfl,rfl,by simp,hlt,by rw[Hx.o,if_neg hz];simpa[List.append_assoc]using Hq.o,Hr.o⟩
  ·have Jg:¬(m:Int)<(k:Int):=by omega
   rw[List.take_of_length_le (show x.names.length≤m by have:=HK.o;have:=Ht.o;omega),List.take_of_length_le (show x.parts.length≤m by have:=HK.o;omega)]at HO
   have H0:=zh (show([x.s,[123]]++Sx.record SY 0 x.names x.parts).length≤50000000 by
    have h1:=Sx.record_len SY 0 x.names x.parts
    have h3:=J6.o
    have h4:=Hm.o
    simp only[List.length_append,List.length_cons,List.length_nil]
    omega)
   obtain⟨wa,hwa⟩:=zE (wr.alloc (.cells #[.string ⟨#[125]⟩] 9))
   have H5:OwnS wa B (.slice A5 n5 c5) ([x.s,[123]]++Sx.record SY 0 x.names x.parts):=by rw[←hwa];exact HO.o.below ((Below.refl _ _).alloc (Nat.le_refl _) _)
   have H4:Below B w2 wa:=by rw[←hwa];exact(H9.o).alloc (Nat.le_trans HX.o.bb (H9.o).size) _
   have H3:Str wa (.slice (some ⟨wr.heap.size,0,none⟩) 1 1) [[125]] (.slice A5 n5 c5):=by rw[←hwa];exact Str.arr (m:=[[125]]) (heap_alloc_new wr _) rfl (fun q hq=>(HO.o.lt q hq).2)
   have Hf:=zh H5
   have H8:=zh H4
   have Hn:=zh H3
   clear H5 H4 H3
   go_wp2_with (at_builtin;refine zpZ rfl _ _ rfl rfl rfl Hf.o Hn.o (by simp) (by have:=H0.o;simp only[List.length_append,List.length_cons,List.length_nil]at *;omega) (Nat.le_trans HX.o.bb H8.o.size) ?_;intro rd wd hO5 H6;have hB5:=zzZ H8.o (Nat.le_trans HX.o.bb H8.o.size) H6 (fun g hg=>(Hf.o.lt g hg).1);have Jb:=zh hO5;have J8:=zh hB5;clear hO5 hB5 H6)
   go_ret
   subst hL
   exact⟨_,rfl,by rw[HT.o];exact Jb.o.base_le HX.o.wb,HX.o.wx _ J8.o⟩
theorem told8 (n:Nat) (hn:n+1≤1000000) (ih:ToldOk n) (x:Sx.Ex) (hsz:Sx.sizeX x≤n+1) (hok:Sx.okX x) (hnum:Sx.numX x) (hkd:x.kind=8) (v:Value) (W:World) (hG:GL W) (hN:NG≤W.heap.size) (ht:IsEx W v x):ToldIs x v W:=by
 unfold ToldIs
 obtain⟨hsh,J8⟩:=hok.shape
 obtain⟨hxn,J7⟩:=Sx.numX_parts hnum
 have Hv:=Sx.sizeX_parts x
 obtain⟨At,ct,An,cn,Ap,cp,rfl,htt,hnn,hp,hn0,hn1⟩:=ht.agg
 unfold Sx.shapeX at hsh
 simp only[Bool.and_eq_true]at hsh
 obtain⟨h1,h2,h3,h4,h5⟩:=hsh
 rw[hkd]at h3 h4 h5
 have Ja:x.names.length=x.parts.length:=by simp at h5;omega
 have Hw:=zh Ja
 have J1:=zh (And.intro J8 J7)
 have HP:=zh hp
 have Jg:=zh hnn
 obtain⟨k,hk⟩:=zE (x.parts.length)
 have Hp:=zh (show Sx.sizeXs x.parts≤n by omega)
 have Jn:=Sx.length_sizeXs x.parts
 have Jq:(k:Int)≤1000000:=by omega
 have HK:=zh hk
 have Hr:x.names.length=k:=by omega
 have H0:=zh (show([[110,101,119]]++[x.s,[123]]).length≤50 by simp)
 have HT:=zh (show Sx.expr SY x=[[110,101,119]]++[x.s,[123]]++Sx.record SY 0 x.names x.parts++[[125]]by
  rw[Sx.expr_eq,hkd]
  simp only[Int.reduceEq,Int.reduceLE,if_true,if_false,or_false,false_or,or_true,true_or,reduceIte,Nat.reduceEqDiff,and_true,true_and,and_false,false_and]
  try rfl)
 have J2:=zh ih
 have Jc:=zh (show Sx.sizeX x≤n+1∧n+1≤1000000 from⟨hsz,hn⟩)
 rw[hkd]
 obtain⟨L,B,w2,hL,hw2,hB,HX⟩:=boxed hG hN #[.int .i64 x.pos,.int .i64 8,.int .i64 x.n,.string ⟨x.s.toArray⟩,.slice At x.t.length ct,.slice An x.names.length cn,.slice Ap x.parts.length cp]
 obtain⟨x0,x1,x2,x3,x4,x5,x6⟩:=zbZ HX.o.box
 have J0:=zaZ HX.o.box
 clear hG hN  ih hsz hn ht htt hnn hp hn0 hn1 J8 J7 hok hnum h1 h2 h4 h5 hkd Hv h3 Ja Jn hk Hr
 go_enter Tryz.func34, Tryz.ntmps34
 rw[HK.o]at x6
 have He:OwnS w2 B (.slice none 0 0) []:=World.ownsRow_nil _ _ _ _
 have Hg:=zh He
 clear He
 obtain⟨wa,hwa⟩:=zE (w2.alloc (.cells #[.string ⟨#[110,101,119]⟩] 9))
 have H5:OwnS wa B (.slice none 0 0) ([]):=by rw[←hwa];exact Hg.o.below ((Below.refl _ _).alloc (Nat.le_refl _) _)
 have H4:Below B w2 wa:=by rw[←hwa];exact(HX.o.r2).alloc (Nat.le_trans HX.o.bb (HX.o.r2).size) _
 have H3:Str wa (.slice (some ⟨B,0,none⟩) 1 1) [[110,101,119]] (.slice none 0 0):=by rw[←hwa];rw[←hB];exact Str.arr (m:=[[110,101,119]]) (heap_alloc_new w2 _) rfl (fun q hq=>(Hg.o.lt q hq).2)
 have Hd:=zh H5
 have H9:=zh H4
 have Hx:=zh H3
 clear H5 H4 H3
 go_upto_region 21 with(at_builtin;refine zpZ rfl _ _ rfl rfl rfl Hd.o Hx.o (by simp) (by have:=H0.o;simp only[List.length_append,List.length_cons,List.length_nil]at *;omega) (Nat.le_trans HX.o.bb H9.o.size) ?_;intro ra wa hO5 H6;have hB5:=zzZ H9.o (Nat.le_trans HX.o.bb H9.o.size) H6 (fun g hg=>(Hd.o.lt g hg).1);have Hz:=zh hO5;have Hn:=zh hB5;clear hO5 hB5 H6 x0 x1 x2 x3 x4 x5 x6 J0)
 obtain⟨Aa,ca,rfl⟩:=Hz.o.slice
 obtain⟨x0,x1,x2,x3,x4,x5,x6⟩:=zbZ (HX.o.bx wa Hn.o)
 rw[HK.o]at x6
 have J0:=zaZ (HX.o.bx wa Hn.o)
 obtain⟨wb,hwb⟩:=zE (wa.alloc (.cells #[.string ⟨x.s.toArray⟩,.string ⟨#[123]⟩] 9))
 have H5:OwnS wb B (.slice Aa ([]++[[110,101,119]]:List Lx.Bytes).length ca) ([]++[[110,101,119]]):=by rw[←hwb];exact Hz.o.below ((Below.refl _ _).alloc (Nat.le_refl _) _)
 have H4:Below B w2 wb:=by rw[←hwb];exact(Hn.o).alloc (Nat.le_trans HX.o.bb (Hn.o).size) _
 have H3:Str wb (.slice (some ⟨wa.heap.size,0,none⟩) 2 2) [x.s,[123]] (.slice Aa ([]++[[110,101,119]]:List Lx.Bytes).length ca):=by rw[←hwb];exact Str.arr (m:=[x.s,[123]]) (heap_alloc_new wa _) rfl (fun q hq=>(Hz.o.lt q hq).2)
 have Hf:=zh H5
 have H7:=zh H4
 have Hs:=zh H3
 clear H5 H4 H3
 go_wp2_with (at_builtin;refine zpZ rfl _ _ rfl rfl rfl Hf.o Hs.o (by simp) (by have:=H0.o;simp only[List.length_append,List.length_cons,List.length_nil]at *;omega) (Nat.le_trans HX.o.bb H7.o.size) ?_;intro rb wb hO5 H6;have hB5:=zzZ H7.o (Nat.le_trans HX.o.bb H7.o.size) H6 (fun g hg=>(Hf.o.lt g hg).1);have J9:=zh hO5;have Ji:=zh hB5;clear hO5 hB5 H6 x0 x1 x2 x3 x4 x5 x6 J0)
 obtain⟨Ab,cb,rfl⟩:=J9.o.slice
 have Jf:=zh (show OwnS wb B (.slice Ab ([]++[[110,101,119]]++[x.s,[123]]:List Lx.Bytes).length cb) ([[110,101,119]]++[x.s,[123]]++Sx.record SY 0 (x.names.take 0) (x.parts.take 0))by have:=J9.o;simpa[Sx.record]using this)
 go_loopg [3,4] k (fun i v3 v4 wr=>∃(m:Nat) (A5:Option Addr) (n5 c5:Nat),i=k-m∧v3=.slice A5 n5 c5∧v4=.int .i64 (m:Nat)∧m≤k∧OwnS wr B (.slice A5 n5 c5) ([[110,101,119]]++[x.s,[123]]++Sx.record SY 0 (x.names.take m) (x.parts.take m))∧Below B w2 wr)
 case atStart=>exact⟨0,Ab,_,cb,rfl,rfl,rfl,Nat.zero_le _,Jf.o,Ji.o⟩
 case round=>
  obtain⟨m,A5,n5,c5,hi,rfl,rfl,hm,ho,hb⟩:=hrel
  have HI:=zh hi
  have HO:=zh ho
  have Ha:=zh hb
  have m0:(0:Int)≤(m:Int):=by omega
  have m1:(m:Int)≤1000000:=by omega
  clear hi ho hb H0
  obtain⟨x0,x1,x2,x3,x4,x5,x6⟩:=zbZ (HX.o.bx wr Ha.o)
  rw[HK.o]at x6
  have Jb:=zaZ (HX.o.bx wr Ha.o)
  by_cases hlt:m<k
  ·have Jm:(m:Int)<(k:Int):=by omega
   have Jp:IntKind.i64.wrap ((m:Int)+1)=(m:Int)+1:=by rw[IntKind.wrap_i64];omega
   have Hk:m<x.parts.length:=by have:=HK.o;omega
   have J6:m<x.names.length:=by have:=Hw.o;omega
   have Jd:(m:Int)<(x.names.length:Int):=by omega
   have H1:=List.getElem_mem Hk
   have Ho:=Sx.record_take Hw.o Hk
   obtain⟨g,off,Atp,ctp,Anp,cnp,App,cpp,rfl,hty,hc5⟩:=HP.o.spot m Hk
   obtain⟨g1,off1,rfl,hsp1⟩:=Jg.o.spot m J6
   obtain⟨p,hpe⟩:=zE (x.parts[m]'Hk)
   obtain⟨s,hse⟩:=zE (x.names[m]'J6)
   rw[hpe]at hty hc5 Ho H1
   rw[hse]at hsp1 Ho
   have Jo:=Sx.sizeX_mem H1
   have Jk:=Sx.sizeXs_take_le x.parts m
   have Hc:=zh (show Sx.sizeX p≤n∧Sx.okX p∧Sx.numX p from⟨by have:=Hp.o;omega,J1.o.1 p H1,J1.o.2 p H1⟩)
   have Hi:=zh (Sx.expr_pos (J1.o.1 p H1))
   have H0:=zh (show([[110,101,119]]++[x.s,[123]]++Sx.record SY 0 (x.names.take m) (x.parts.take m)).length+(Sx.expr SY p).length≤50000000 by
    have h1:=Sx.record_len SY 0 (x.names.take m) (x.parts.take m)
    have h2:=Sx.expr_len SY p
    have h3:=Jc.o
    have h4:=Hp.o
    simp only[List.length_append,List.length_cons,List.length_nil]
    omega)
   have J4:=zh hty
   have Hl:=zh hc5
   have J3:=zh Ho
   have Hm:=zh hsp1
   clear hty hc5 Ho H1 Jo Jk hpe hse hsp1
   by_cases hz:0<m
   ·have Jl:(0:Int)<(m:Int):=by omega
    obtain⟨wa,hwa⟩:=zE (wr.alloc (.cells #[.string ⟨#[44]⟩] 9))
    have H5:OwnS wa B (.slice A5 n5 c5) ([[110,101,119]]++[x.s,[123]]++Sx.record SY 0 (x.names.take m) (x.parts.take m)):=by rw[←hwa];exact HO.o.below ((Below.refl _ _).alloc (Nat.le_refl _) _)
    have H4:Below B w2 wa:=by rw[←hwa];exact(Ha.o).alloc (Nat.le_trans HX.o.bb (Ha.o).size) _
    have H3:Str wa (.slice (some ⟨wr.heap.size,0,none⟩) 1 1) [[44]] (.slice A5 n5 c5):=by rw[←hwa];exact Str.arr (m:=[[44]]) (heap_alloc_new wr _) rfl (fun q hq=>(HO.o.lt q hq).2)
    have Hj:=zh H5
    have Hb:=zh H4
    have Hy:=zh H3
    clear H5 H4 H3
    go_wp2_with (at_builtin;refine zpZ rfl _ _ rfl rfl rfl Hj.o Hy.o (by simp) (by have:=H0.o;simp only[List.length_append,List.length_cons,List.length_nil]at *;omega) (Nat.le_trans HX.o.bb Hb.o.size) ?_;intro rc wc hO5 H6;have hB5:=zzZ Hb.o (Nat.le_trans HX.o.bb Hb.o.size) H6 (fun g hg=>(Hj.o.lt g hg).1);have J5:=zh hO5;have Jj:=zh hB5;clear hO5 hB5 H6)
    obtain⟨Ac,cc,rfl⟩:=J5.o.slice
    clear x0 x1 x2 x3 x4 x5 x6 Jb
    have hB0:Below B w2 wc.drew:=(Jj.o).drew
    have hO0:OwnS wc.drew B (.slice Ac (([[110,101,119]]++[x.s,[123]]++Sx.record SY 0 (x.names.take m) (x.parts.take m))++[[44]]).length cc) (([[110,101,119]]++[x.s,[123]]++Sx.record SY 0 (x.names.take m) (x.parts.take m))++[[44]]):=J5.o
    obtain⟨Fs,hFs⟩:∃F:List (Value→World→Value→Nat→Prop),[IsF (.slice Ac (([[110,101,119]]++[x.s,[123]]++Sx.record SY 0 (x.names.take m) (x.parts.take m))++[[44]]).length cc),IsF (.pointer (some ⟨L,5,none⟩)),IsF (.slice (some ⟨g1,off1,none⟩) x.names.length cn),IsF (.int .i64 (m:Int)),IsF (.pointer (some ⟨g1,off1+m,none⟩)),IsF (.string ⟨s.toArray⟩),StrF [s,[58]],AppF 0,IsF (.pointer (some ⟨L,6,none⟩)),IsF (.slice (some ⟨g,off,none⟩) k cp),IsF (.int .i64 (m:Int)),IsF (.pointer (some ⟨g,off+m * 7,none⟩)),IsF (.agg #[.int .i64 p.pos,.int .i64 p.kind,.int .i64 p.n,.string ⟨p.s.toArray⟩,.slice Atp p.t.length ctp,.slice Anp p.names.length cnp,.slice App p.parts.length cpp]),StrF (Sx.expr SY p),AppF 1,AppF 1]=F:=⟨_,rfl⟩
    obtain⟨F0,F1,F2,F3,F4,F5,F6,F7,F8,F9,F10,F11,F12,F13,F14,F15,-⟩:=zwZ hFs
    have H2:AllStay RowM Fs:=by rw[←hFs];repeat (first | exact .nil | refine .cons (by first | exact IsF.stays | exact AppF.stays | exact StrF.stays) ?_)
    obtain⟨Lf,hLf⟩:∃f:Nat→List Lx.Bytes,(fun k=>([(([[110,101,119]]++[x.s,[123]]++Sx.record SY 0 (x.names.take m) (x.parts.take m))++[[44]]),(([[110,101,119]]++[x.s,[123]]++Sx.record SY 0 (x.names.take m) (x.parts.take m))++[[44]])++[s,[58]],(([[110,101,119]]++[x.s,[123]]++Sx.record SY 0 (x.names.take m) (x.parts.take m))++[[44]])++[s,[58]]++(Sx.expr SY p)]:List (List Lx.Bytes)).getD k [])=f:=⟨_,rfl⟩
    have L0:Lf 0=(([[110,101,119]]++[x.s,[123]]++Sx.record SY 0 (x.names.take m) (x.parts.take m))++[[44]]):=by rw[←hLf];rfl
    have L1:Lf 1=(([[110,101,119]]++[x.s,[123]]++Sx.record SY 0 (x.names.take m) (x.parts.take m))++[[44]])++[s,[58]]:=by rw[←hLf];rfl
    have L2:Lf 2=(([[110,101,119]]++[x.s,[123]]++Sx.record SY 0 (x.names.take m) (x.parts.take m))++[[44]])++[s,[58]]++(Sx.expr SY p):=by rw[←hLf];rfl
    clear hFs hLf
    refine zoZ (by kernel_rfl) [7,14] (RowI B w2 (.slice Ac (([[110,101,119]]++[x.s,[123]]++Sx.record SY 0 (x.names.take m) (x.parts.take m))++[[44]]).length cc) Lf) RowM Fs (.slice Ac (([[110,101,119]]++[x.s,[123]]++Sx.record SY 0 (x.names.take m) (x.parts.take m))++[[44]]).length cc) (by kernel_rfl) (by kernel_rfl) (by kernel_rfl) (by kernel_rfl) (by kernel_rfl) H2 (n:=16) (by kernel_rfl) ⟨hB0,by rw[L0];exact hO0,fun _=>rfl⟩ ?_ ?_
    ·repeat' first | refine OpsOk.cons ?_ ?_ | fail
     ·exact OpOk.mov rfl rfl F0 RowM.rf rfl fun ρ w r k E=>E.z 3 15 [14,7,0] (by kernel_rfl)
     ·exact OpOk.fldB HX.o rfl rfl F1 rfl rfl fun ρ w r k E=>E.n 1 (by kernel_rfl)
     ·exact OpOk.ldB HX.o rfl rfl F2 F1 rfl rfl (by kernel_rfl) (by first | rfl | (rw[←HK.o];rfl))
     ·exact OpOk.mov rfl rfl F3 RowM.rf rfl fun ρ w r k E=>E.n 4 (by kernel_rfl)
     ·refine OpOk.val rfl rfl F4 RowM.rf fun ρ w r k E hI K hK=>?_
      have e74:=E.e 74 2 (by kernel_rfl) F2
      have e75:=E.e 75 3 (by kernel_rfl) F3
      obtain⟨q0,q1⟩:=Hm.o w (HX.o.wx w hI.1)
      go_simp
      exact hK
     ·refine OpOk.val rfl rfl F5 RowM.rf fun ρ w r k E hI K hK=>?_
      have e76:=E.e 76 4 (by kernel_rfl) F4
      obtain⟨q0,q1⟩:=Hm.o w (HX.o.wx w hI.1)
      go_simp
      exact hK
     ·refine OpOk.one rfl rfl F6 HX.o.bb fun ρ w r k E hI K hK=>?_
      have e77:=E.e 77 5 (by kernel_rfl) F5
      have c:=E.c
      go_simp
      exact hK _ rfl
     ·exact OpOk.app0 (s:=72) (x:=78) (q0:=0) (q:=6) rfl rfl rfl F7 L0 L1 rfl (by simp) (by(have h1:=H0.o;simp only[List.length_append,List.length_cons,List.length_nil]at *;omega)) HX.o.bb F0 (by kernel_rfl) F6 (by kernel_rfl)
     ·exact OpOk.fldB HX.o rfl rfl F8 rfl rfl fun ρ w r k E=>E.n 1 (by kernel_rfl)
     ·exact OpOk.ldB HX.o rfl rfl F9 F8 rfl rfl (by kernel_rfl) (by first | rfl | (rw[←HK.o];rfl))
     ·exact OpOk.mov rfl rfl F10 RowM.rf rfl fun ρ w r k E=>E.n 4 (by kernel_rfl)
     ·refine OpOk.val rfl rfl F11 RowM.rf fun ρ w r k E hI K hK=>?_
      have e81:=E.e 81 9 (by kernel_rfl) F9
      have e82:=E.e 82 10 (by kernel_rfl) F10
      obtain⟨hg,c0,c1,c2,c3,c4,c5,c6⟩:=Hl.o w (HX.o.wx w hI.1)
      go_simp
      exact hK
     ·refine OpOk.val rfl rfl F12 RowM.rf fun ρ w r k E hI K hK=>?_
      have e83:=E.e 83 11 (by kernel_rfl) F11
      obtain⟨hg,c0,c1,c2,c3,c4,c5,c6⟩:=Hl.o w (HX.o.wx w hI.1)
      go_simp
      exact hK
     ·exact OpOk.call rfl rfl F13 HX.o.bb rfl Tryz.func34 (by kernel_rfl) rfl (fun ρ w r k E=>by simp only[List.map_toArray,List.map_cons,List.map_nil,E.e 84 12 (by kernel_rfl) F12]) fun w hb=>J2.o p Hc.o.1 Hc.o.2.1 Hc.o.2.2 _ w (HX.o.gx w hb).1 (HX.o.gx w hb).2 (IsEx.below (HX.o.wx w hb) _ _ J4.o)
     ·exact OpOk.appN (j:=0) (s:=79) (x:=85) (p:=7) (q:=13) rfl rfl rfl F14 L1 L2 rfl (by exact Hi.o) (by(have h1:=H0.o;simp only[List.length_append,List.length_cons,List.length_nil]at *;omega)) HX.o.bb F7 (by kernel_rfl) F13 (by kernel_rfl)
     ·exact OpOk.asg rfl rfl F15 F14 rfl (by kernel_rfl)
     ·exact .nil
    ·intro uq wq rq hI hF
     have f15:uq 15=rq:=((zmZ F15 (hF 15 (by decide))).2 rfl).symm
     have hBz:=hI.1
     have hOz:=hI.2.1
     rw[show([7,14]:List Nat).length=2 from rfl,L2]at hOz
     simp only[List.toList_toArray,fillAct,Act.put,List.setIfInBounds_toArray,List.set_cons_zero,List.set_cons_succ,f15]
     clear hI hF F0 F1 F2 F3 F4 F5 F6 F7 F8 F9 F10 F11 F12 F13 F14 F15 H2 L0 L1 L2
     obtain⟨A9,c9,rfl⟩:=hOz.slice
     have Ht:=zh hOz
     have Hu:=zh hBz
     clear hOz hBz
     go_wp2_with fail
     go_roundg (k-(m+1))
     case measure=>have:=HI.o;omega
     case rel=>exact⟨m+1,A9,_,c9,rfl,rfl,by simp,hlt,by rw[J3.o,if_pos hz];simpa[List.append_assoc]using Ht.o,Hu.o⟩
   ·have Jl:¬(0:Int)<(m:Int):=by omega
    go_wp2_with fail
    clear x0 x1 x2 x3 x4 x5 x6 Jb
    have hB0:Below B w2 wr.drew:=(Ha.o).drew
    have hO0:OwnS wr.drew B (.slice A5 n5 c5) ([[110,101,119]]++[x.s,[123]]++Sx.record SY 0 (x.names.take m) (x.parts.take m)):=HO.o
    obtain⟨Fs,hFs⟩:∃F:List (Value→World→Value→Nat→Prop),[IsF (.slice A5 n5 c5),IsF (.pointer (some ⟨L,5,none⟩)),IsF (.slice (some ⟨g1,off1,none⟩) x.names.length cn),IsF (.int .i64 (m:Int)),IsF (.pointer (some ⟨g1,off1+m,none⟩)),IsF (.string ⟨s.toArray⟩),StrF [s,[58]],AppF 0,IsF (.pointer (some ⟨L,6,none⟩)),IsF (.slice (some ⟨g,off,none⟩) k cp),IsF (.int .i64 (m:Int)),IsF (.pointer (some ⟨g,off+m * 7,none⟩)),IsF (.agg #[.int .i64 p.pos,.int .i64 p.kind,.int .i64 p.n,.string ⟨p.s.toArray⟩,.slice Atp p.t.length ctp,.slice Anp p.names.length cnp,.slice App p.parts.length cpp]),StrF (Sx.expr SY p),AppF 1,AppF 1]=F:=⟨_,rfl⟩
    obtain⟨F0,F1,F2,F3,F4,F5,F6,F7,F8,F9,F10,F11,F12,F13,F14,F15,-⟩:=zwZ hFs
    have H2:AllStay RowM Fs:=by rw[←hFs];repeat (first | exact .nil | refine .cons (by first | exact IsF.stays | exact AppF.stays | exact StrF.stays) ?_)
    obtain⟨Lf,hLf⟩:∃f:Nat→List Lx.Bytes,(fun k=>([([[110,101,119]]++[x.s,[123]]++Sx.record SY 0 (x.names.take m) (x.parts.take m)),([[110,101,119]]++[x.s,[123]]++Sx.record SY 0 (x.names.take m) (x.parts.take m))++[s,[58]],([[110,101,119]]++[x.s,[123]]++Sx.record SY 0 (x.names.take m) (x.parts.take m))++[s,[58]]++(Sx.expr SY p)]:List (List Lx.Bytes)).getD k [])=f:=⟨_,rfl⟩
    have L0:Lf 0=([[110,101,119]]++[x.s,[123]]++Sx.record SY 0 (x.names.take m) (x.parts.take m)):=by rw[←hLf];rfl
    have L1:Lf 1=([[110,101,119]]++[x.s,[123]]++Sx.record SY 0 (x.names.take m) (x.parts.take m))++[s,[58]]:=by rw[←hLf];rfl
    have L2:Lf 2=([[110,101,119]]++[x.s,[123]]++Sx.record SY 0 (x.names.take m) (x.parts.take m))++[s,[58]]++(Sx.expr SY p):=by rw[←hLf];rfl
    clear hFs hLf
    refine zoZ (by kernel_rfl) [7,14] (RowI B w2 (.slice A5 n5 c5) Lf) RowM Fs (.slice A5 n5 c5) (by kernel_rfl) (by kernel_rfl) (by kernel_rfl) (by kernel_rfl) (by kernel_rfl) H2 (n:=16) (by kernel_rfl) ⟨hB0,by rw[L0];exact hO0,fun _=>rfl⟩ ?_ ?_
    ·repeat' first | refine OpsOk.cons ?_ ?_ | fail
     ·exact OpOk.mov rfl rfl F0 RowM.rf rfl fun ρ w r k E=>E.z 3 15 [14,7,0] (by kernel_rfl)
     ·exact OpOk.fldB HX.o rfl rfl F1 rfl rfl fun ρ w r k E=>E.n 1 (by kernel_rfl)
     ·exact OpOk.ldB HX.o rfl rfl F2 F1 rfl rfl (by kernel_rfl) (by first | rfl | (rw[←HK.o];rfl))
     ·exact OpOk.mov rfl rfl F3 RowM.rf rfl fun ρ w r k E=>E.n 4 (by kernel_rfl)
     ·refine OpOk.val rfl rfl F4 RowM.rf fun ρ w r k E hI K hK=>?_
      have e74:=E.e 74 2 (by kernel_rfl) F2
      have e75:=E.e 75 3 (by kernel_rfl) F3
      obtain⟨q0,q1⟩:=Hm.o w (HX.o.wx w hI.1)
      go_simp
      exact hK
     ·refine OpOk.val rfl rfl F5 RowM.rf fun ρ w r k E hI K hK=>?_
      have e76:=E.e 76 4 (by kernel_rfl) F4
      obtain⟨q0,q1⟩:=Hm.o w (HX.o.wx w hI.1)
      go_simp
      exact hK
     ·refine OpOk.one rfl rfl F6 HX.o.bb fun ρ w r k E hI K hK=>?_
      have e77:=E.e 77 5 (by kernel_rfl) F5
      have c:=E.c
      go_simp
      exact hK _ rfl
     ·exact OpOk.app0 (s:=72) (x:=78) (q0:=0) (q:=6) rfl rfl rfl F7 L0 L1 rfl (by simp) (by(have h1:=H0.o;simp only[List.length_append,List.length_cons,List.length_nil]at *;omega)) HX.o.bb F0 (by kernel_rfl) F6 (by kernel_rfl)
     ·exact OpOk.fldB HX.o rfl rfl F8 rfl rfl fun ρ w r k E=>E.n 1 (by kernel_rfl)
     ·exact OpOk.ldB HX.o rfl rfl F9 F8 rfl rfl (by kernel_rfl) (by first | rfl | (rw[←HK.o];rfl))
     ·exact OpOk.mov rfl rfl F10 RowM.rf rfl fun ρ w r k E=>E.n 4 (by kernel_rfl)
     ·refine OpOk.val rfl rfl F11 RowM.rf fun ρ w r k E hI K hK=>?_
      have e81:=E.e 81 9 (by kernel_rfl) F9
      have e82:=E.e 82 10 (by kernel_rfl) F10
      obtain⟨hg,c0,c1,c2,c3,c4,c5,c6⟩:=Hl.o w (HX.o.wx w hI.1)
      go_simp
      exact hK
     ·refine OpOk.val rfl rfl F12 RowM.rf fun ρ w r k E hI K hK=>?_
      have e83:=E.e 83 11 (by kernel_rfl) F11
      obtain⟨hg,c0,c1,c2,c3,c4,c5,c6⟩:=Hl.o w (HX.o.wx w hI.1)
      go_simp
      exact hK
     ·exact OpOk.call rfl rfl F13 HX.o.bb rfl Tryz.func34 (by kernel_rfl) rfl (fun ρ w r k E=>by simp only[List.map_toArray,List.map_cons,List.map_nil,E.e 84 12 (by kernel_rfl) F12]) fun w hb=>J2.o p Hc.o.1 Hc.o.2.1 Hc.o.2.2 _ w (HX.o.gx w hb).1 (HX.o.gx w hb).2 (IsEx.below (HX.o.wx w hb) _ _ J4.o)
     ·exact OpOk.appN (j:=0) (s:=79) (x:=85) (p:=7) (q:=13) rfl rfl rfl F14 L1 L2 rfl (by exact Hi.o) (by(have h1:=H0.o;simp only[List.length_append,List.length_cons,List.length_nil]at *;omega)) HX.o.bb F7 (by kernel_rfl) F13 (by kernel_rfl)
     ·exact OpOk.asg rfl rfl F15 F14 rfl (by kernel_rfl)
     ·exact .nil
    ·intro uq wq rq hI hF
     have f15:uq 15=rq:=((zmZ F15 (hF 15 (by decide))).2 rfl).symm
     have hBz:=hI.1
     have hOz:=hI.2.1
     rw[show([7,14]:List Nat).length=2 from rfl,L2]at hOz
     simp only[List.toList_toArray,fillAct,Act.put,List.setIfInBounds_toArray,List.set_cons_zero,List.set_cons_succ,f15]
     clear hI hF F0 F1 F2 F3 F4 F5 F6 F7 F8 F9 F10 F11 F12 F13 F14 F15 H2 L0 L1 L2
     obtain⟨A9,c9,rfl⟩:=hOz.slice
     have Ht:=zh hOz
     have Hu:=zh hBz
     clear hOz hBz
     go_wp2_with fail
     go_roundg (k-(m+1))
     case measure=>have:=HI.o;omega
     case rel=>exact⟨m+1,A9,_,c9,rfl,rfl,by simp,hlt,by rw[J3.o,if_neg hz];simpa[List.append_assoc]using Ht.o,Hu.o⟩
  ·have Jm:¬(m:Int)<(k:Int):=by omega
   rw[List.take_of_length_le (show x.names.length≤m by have:=HK.o;have:=Hw.o;omega),List.take_of_length_le (show x.parts.length≤m by have:=HK.o;omega)]at HO
   have H0:=zh (show([[110,101,119]]++[x.s,[123]]++Sx.record SY 0 x.names x.parts).length≤50000000 by
    have h1:=Sx.record_len SY 0 x.names x.parts
    have h3:=Jc.o
    have h4:=Hp.o
    simp only[List.length_append,List.length_cons,List.length_nil]
    omega)
   obtain⟨wa,hwa⟩:=zE (wr.alloc (.cells #[.string ⟨#[125]⟩] 9))
   have H5:OwnS wa B (.slice A5 n5 c5) ([[110,101,119]]++[x.s,[123]]++Sx.record SY 0 x.names x.parts):=by rw[←hwa];exact HO.o.below ((Below.refl _ _).alloc (Nat.le_refl _) _)
   have H4:Below B w2 wa:=by rw[←hwa];exact(Ha.o).alloc (Nat.le_trans HX.o.bb (Ha.o).size) _
   have H3:Str wa (.slice (some ⟨wr.heap.size,0,none⟩) 1 1) [[125]] (.slice A5 n5 c5):=by rw[←hwa];exact Str.arr (m:=[[125]]) (heap_alloc_new wr _) rfl (fun q hq=>(HO.o.lt q hq).2)
   have Hh:=zh H5
   have H8:=zh H4
   have Hq:=zh H3
   clear H5 H4 H3
   go_wp2_with (at_builtin;refine zpZ rfl _ _ rfl rfl rfl Hh.o Hq.o (by simp) (by have:=H0.o;simp only[List.length_append,List.length_cons,List.length_nil]at *;omega) (Nat.le_trans HX.o.bb H8.o.size) ?_;intro rd wd hO5 H6;have hB5:=zzZ H8.o (Nat.le_trans HX.o.bb H8.o.size) H6 (fun g hg=>(Hh.o.lt g hg).1);have Jh:=zh hO5;have Je:=zh hB5;clear hO5 hB5 H6)
   go_ret
   subst hL
   exact⟨_,rfl,by rw[HT.o];exact Jh.o.base_le HX.o.wb,HX.o.wx _ Je.o⟩
theorem zuoZ:∀n:Nat,n≤1000000→ToldOk n:=by
 intro n
 induction n with
 | zero=>intro _ x h;have:=Sx.sizeX_pos x;omega
 | succ n ih=>
  intro hn x H2 H1 H0 v W hG hN ht
  have ih:=ih (by omega)
  obtain⟨h1,h2⟩:=H1.kind
  have hk:x.kind=1∨x.kind=2∨x.kind=3∨x.kind=4∨x.kind=5∨x.kind=6∨x.kind=7∨x.kind=8∨x.kind=9∨x.kind=10∨x.kind=11∨x.kind=12∨x.kind=13∨x.kind=14∨x.kind=15∨x.kind=16∨x.kind=17∨x.kind=18∨x.kind=19∨x.kind=20∨x.kind=21:=by omega
  rcases hk with hk | hk | hk | hk | hk | hk | hk | hk | hk | hk | hk | hk | hk | hk | hk | hk | hk | hk | hk | hk | hk
  ·exact told1 n hn ih x H2 H1 H0 hk v W hG hN ht
  ·exact told2 n hn ih x H2 H1 H0 hk v W hG hN ht
  ·by_cases hx:x.n=1
   ·exact zwdZ n hn ih x H2 H1 H0 hk hx v W hG hN ht
   ·exact zweZ n hn ih x H2 H1 H0 hk hx v W hG hN ht
  ·exact told4 n hn ih x H2 H1 H0 hk v W hG hN ht
  ·exact told5 n hn ih x H2 H1 H0 hk v W hG hN ht
  ·exact told6 n hn ih x H2 H1 H0 hk v W hG hN ht
  ·exact told7 n hn ih x H2 H1 H0 hk v W hG hN ht
  ·exact told8 n hn ih x H2 H1 H0 hk v W hG hN ht
  ·exact told9 n hn ih x H2 H1 H0 hk v W hG hN ht
  ·exact zwfZ n hn ih x H2 H1 H0 hk v W hG hN ht
  ·exact zwjZ n hn ih x H2 H1 H0 hk v W hG hN ht
  ·exact zwgZ n hn ih x H2 H1 H0 hk v W hG hN ht
  ·exact zwhZ n hn ih x H2 H1 H0 hk v W hG hN ht
  ·exact zwiZ n hn ih x H2 H1 H0 hk v W hG hN ht
  ·exact zdrZ n hn ih x H2 H1 H0 15 (by omega) (by omega) 5 rfl (by omega) (by omega) (by omega) hk v W hG hN ht
  ·exact zdrZ n hn ih x H2 H1 H0 16 (by omega) (by omega) 4 rfl (by omega) (by omega) (by omega) hk v W hG hN ht
  ·exact zdrZ n hn ih x H2 H1 H0 17 (by omega) (by omega) 4 rfl (by omega) (by omega) (by omega) hk v W hG hN ht
  ·exact zkzZ n hn ih x H2 H1 H0 18 (by omega) (by omega) rfl hk v W hG hN ht
  ·exact zkzZ n hn ih x H2 H1 H0 19 (by omega) (by omega) rfl hk v W hG hN ht
  ·exact zdrZ n hn ih x H2 H1 H0 20 (by omega) (by omega) 2 rfl (by omega) (by omega) (by omega) hk v W hG hN ht
  ·exact zdrZ n hn ih x H2 H1 H0 21 (by omega) (by omega) 1 rfl (by omega) (by omega) (by omega) hk v W hG hN ht
end Go.Proofs.YtdncljdfmdgdaaaGreatDoor
namespace Go.Proofs.YtdncljdfmdgdaaaGreatDoor
open Go.RowKit
def cutV (p:Nat):Lx.Res→Value
 | .ok t n=>.agg #[.int .i64 t.pos,.int .i64 t.kind,.string ⟨t.s.toArray⟩,.int .i64 t.n,.int .i64 ((p+n:Nat):Int),.int .i64 0,.int .i64 0]
 | .bad y x=>.agg #[.int .i64 0,.int .i64 0,.string ⟨#[]⟩,.int .i64 0,.int .i64 0,.int .i64 (y:Nat),.int .i64 (x:Nat)]
theorem zbtZ (y x:Int) (w:World):Calls Tryz.prog 170 #[.int .i64 y,.int .i64 x] w fun e w'=>e=.returned (.agg #[.int .i64 0,.int .i64 0,.string ⟨#[]⟩,.int .i64 0,.int .i64 0,.int .i64 y,.int .i64 x])∧Below w.heap.size w w':=by
 go_enter Tryz.func170, Tryz.ntmps170
 go_wp2
 refine bodyPost_ret (v:=.agg #[.int .i64 0,.int .i64 0,.string ⟨#[]⟩,.int .i64 0,.int .i64 0,.int .i64 y,.int .i64 x]) (by simp[results, Tryz.results170,go_sem]) rfl ?_
 exact⟨rfl,zeZ (World.grownBy_alloc _ _ _)⟩
def sgs:List Lx.Bytes:=[[61,61],[40],[41],[123],[125],[59],[58],[44],[46],[61],[60],[43],[45],[42]]
def sgCells:Array Value:=(sgs.map fun s=>Value.string ⟨s.toArray⟩).toArray
theorem zetZ (m:Nat) (h:m<14):sgCells[m]? =some (.string ⟨(sgs.getD m []).toArray⟩):=by
 have hl:sgs.length=14:=rfl
 unfold sgCells
 rw[List.getElem?_toArray,List.getElem?_map,List.getD_eq_getElem?_getD,List.getElem?_eq_getElem (by omega)]
 rfl
theorem zgxZ (w:World):Calls Tryz.prog 139 #[] w fun e w'=>e=.returned (.slice (some ⟨w.heap.size,0,none⟩) 14 14)∧w'=w.alloc (.cells sgCells 9):=by
 go_enter Tryz.func139, Tryz.ntmps139
 go_wp2
 go_ret
 exact⟨rfl,rfl⟩
def isWord (l:Lx.Bytes):Bool:=Lx.words.contains l
theorem zmrZ (s:ByteArray) (w:World):Calls Tryz.prog 181 #[.string s] w fun e w'=>e=.returned (.bool (isWord s.data.toList))∧Below w.heap.size w w':=by
 go_enter Tryz.func181, Tryz.ntmps181
 go_upto_region 2 with(go_at_call 192;refine(zrjZ _).mono ?_;rintro e W1 ⟨rfl,hWe⟩;rw[hWe];clear hWe)
 have H0:=heap_alloc_new w (.cells wordCells 9)
 have hb:=zeZ (World.grownBy_alloc w (.cells wordCells 9) none)
 obtain⟨W2,hW2⟩:=zE (w.alloc (.cells wordCells 9))
 rw[hW2]at H0 hb ⊢
 have HW:=zh H0
 have H6:=zaZ H0
 clear H0 hW2
 go_wp2_with fail
 go_loopg [4] 25 (fun n v wr=>∃(m:Nat),n=25-m∧v=.int .i64 (m:Int)∧m≤25∧wr=W2∧(Lx.words.take m).contains s.data.toList=false)
 case atStart=>exact⟨0,rfl,rfl,Nat.zero_le _,rfl,rfl⟩
 case round=>
  obtain⟨m,hn,rfl,hm,rfl,hc⟩:=hrel
  have HN:=zh hn
  have HC:=zh hc
  clear hn hc
  by_cases hlt:m<25
  ·have H4:(m:Int)<25:=by omega
   have H7:(0:Int)≤(m:Int):=by omega
   have t0:=(zdZ HW.o m).trans (zjuZ m hlt)
   have H2:=zhdZ m hlt s.data.toList
   rw[HC.o,Bool.false_or]at H2
   obtain⟨x,hx⟩:=zE (Lx.words.getD m [])
   have H1:x∈Lx.words:=by
    rw[←hx,List.getD_eq_getElem?_getD,List.getElem?_eq_getElem (show m<Lx.words.length from hlt)]
    exact List.getElem_mem _
   rw[hx]at t0 H2
   have H3:(x==s.toList)=(x==s.data.toList):=by rw[ByteArray.toList_eq]
   cases hq:(x==s.data.toList)with
   | true=>
    rw[hq]at H3
    have HR:=zh (show isWord s.data.toList=true by
     unfold isWord
     rw[List.contains_iff_mem,←show x=s.data.toList by simpa using hq]
     exact H1)
    clear H2 hx hq H1
    go_wp2
    go_ret
    rw[HR.o]
    exact⟨rfl,hb⟩
   | false=>
    rw[hq]at H3 H2
    have HG:=zh H2
    clear H2 hx hq H1
    go_wp2
    go_roundg (25-(m+1))
    case measure=>have:=HN.o;omega
    case rel=>exact⟨m+1,rfl,by simp,hlt,rfl,HG.o⟩
  ·have H4:¬(m:Int)<25:=by omega
   have H5:m=25:=by omega
   have HR:=zh (show isWord s.data.toList=false by have:=HC.o;rw[H5]at this;exact this)
   go_wp2
   go_ret
   rw[HR.o]
   exact⟨rfl,hb⟩
def firsts:Lx.Bytes:=[61,40,41,123,125,59,58,44,46,61,60,43,45,42]
theorem zftZ (b:UInt8):firsts.contains b=Lx.signs.contains b:=by
 have h1:∀x∈firsts,x∈Lx.signs:=by decide
 have h2:∀x∈Lx.signs,x∈firsts:=by decide
 rw[Bool.eq_iff_iff,List.contains_iff_mem,List.contains_iff_mem]
 exact⟨h1 b,h2 b⟩
theorem zsiZ (m:Nat) (h:m<14):∃(x:Lx.Bytes),sgs.getD m []=firsts.getD m 0::x:=by
 have H0:((List.range 14).all fun m=>(sgs.getD m []).head? ==some (firsts.getD m 0))=true:=by decide
 have:=List.all_eq_true.1 H0 m (List.mem_range.2 h)
 cases hs:sgs.getD m []with
 | nil=>rw[hs]at this;simp at this
 | cons a x=>
  rw[hs]at this
  have:a=firsts.getD m 0:=by simpa using this
  exact⟨x,by rw[this]⟩
theorem zjiZ (l:Lx.Bytes) (m:Nat) (h:m<l.length) (b:UInt8):(l.take (m+1)).contains b=((l.take m).contains b||(l.getD m 0==b)):=by
 rw[List.take_succ_eq_append_getElem h,List.getD_eq_getElem?_getD,List.getElem?_eq_getElem h,Bool.eq_iff_iff]
 simp only[List.contains_iff_mem,List.mem_append,List.mem_singleton,Bool.or_eq_true,beq_iff_eq,Option.getD_some]
 exact⟨fun h=>h.imp id Eq.symm,fun h=>h.imp id Eq.symm⟩
theorem zpoZ (b:UInt8) (w:World):Calls Tryz.prog 151 #[.int .u8 (b.toNat:Int)] w fun e w'=>e=.returned (.bool (Lx.begins b))∧Below w.heap.size w w':=by
 have hw:Lx.begins b=(Lx.small b||Lx.great b||Lx.digit b||(b.toNat==34)||firsts.contains b):=by
  rw[zftZ];rfl
 by_cases hfirst:(Lx.small b||Lx.great b||Lx.digit b||(b.toNat==34))=true
 ·have HW:=zh (show Lx.begins b=true by rw[hw,hfirst];rfl)
  have h4:Lx.small b=true∨(Lx.small b=false∧Lx.great b=true)∨(Lx.small b=false∧Lx.great b=false∧Lx.digit b=true)∨(Lx.small b=false∧Lx.great b=false∧Lx.digit b=false∧((b.toNat:Int)==34)=true):=by
   simp only[Bool.or_eq_true,beq_iff_eq]at hfirst ⊢
   cases hs:Lx.small b <;> cases hg:Lx.great b <;> cases hd:Lx.digit b <;> simp[hs,hg,hd]at hfirst ⊢ <;> omega
  clear hw hfirst
  rcases h4 with hs | ⟨hs,hg⟩ | ⟨hs,hg,hd⟩ | ⟨hs,hg,hd,b34⟩
  all_goals
   go_enter Tryz.func151, Tryz.ntmps151
   go_wp2_with (first
    | (go_at_call 164;refine(zbyZ _ _).mono ?_;rw[hs];rintro e w' ⟨rfl,rfl⟩)
    | (go_at_call 165;refine(zbnZ _ _).mono ?_;rw[hg];rintro e w' ⟨rfl,rfl⟩)
    | (go_at_call 166;refine(zbsZ _ _).mono ?_;rw[hd];rintro e w' ⟨rfl,rfl⟩))
   go_ret
   rw[HW.o]
   exact⟨rfl,Below.refl _ _⟩
 ·have H4:(Lx.small b||Lx.great b||Lx.digit b||(b.toNat==34))=false:=by simpa using hfirst
  have HW:=zh (show Lx.begins b=firsts.contains b by rw[hw,H4];rfl)
  simp only[Bool.or_eq_false_iff]at H4
  obtain⟨⟨⟨hs,hg⟩,hd⟩,h34⟩:=H4
  have b34:((b.toNat:Int)==34)=false:=by simp at h34 ⊢;omega
  clear hw hfirst h34
  go_enter Tryz.func151, Tryz.ntmps151
  go_upto_region 4 with(first
    | (go_at_call 164;refine(zbyZ _ _).mono ?_;rw[hs];rintro e w' ⟨rfl,rfl⟩)
    | (go_at_call 165;refine(zbnZ _ _).mono ?_;rw[hg];rintro e w' ⟨rfl,rfl⟩)
    | (go_at_call 166;refine(zbsZ _ _).mono ?_;rw[hd];rintro e w' ⟨rfl,rfl⟩)
    | (go_at_call 139;refine(zgxZ _).mono ?_;rintro e W1 ⟨rfl,hWe⟩;rw[hWe];clear hWe))
  have H1:=heap_alloc_new w (.cells sgCells 9)
  have hb:=zeZ (World.grownBy_alloc w (.cells sgCells 9) none)
  obtain⟨W2,hW2⟩:=zE (w.alloc (.cells sgCells 9))
  rw[hW2]at H1 hb ⊢
  have HB:=zh H1
  have H7:=zaZ H1
  clear H1 hW2
  go_wp2_with fail
  go_loopg [4] 14 (fun n v wr=>∃(m:Nat),n=14-m∧v=.int .i64 (m:Int)∧m≤14∧wr=W2∧(firsts.take m).contains b=false)
  case atStart=>exact⟨0,rfl,rfl,Nat.zero_le _,rfl,rfl⟩
  case round=>
   obtain⟨m,hn,rfl,hm,rfl,hc⟩:=hrel
   have HN:=zh hn
   have HC:=zh hc
   clear hn hc
   by_cases hlt:m<14
   ·have H5:(m:Int)<14:=by omega
    have H8:(0:Int)≤(m:Int):=by omega
    have t0:=(zdZ HB.o m).trans (zetZ m hlt)
    obtain⟨x,hx⟩:=zsiZ m hlt
    have H2:=zjiZ firsts m hlt b
    rw[HC.o,Bool.false_or]at H2
    obtain⟨f,hf⟩:=zE (firsts.getD m 0)
    rw[hx,hf]at t0
    rw[hf]at H2
    obtain⟨S,hS⟩:∃S:ByteArray,(⟨(f::x).toArray⟩:ByteArray)=S:=⟨_,rfl⟩
    rw[hS]at t0
    have hS0:0<S.size:=by rw[←hS];show 0<(f::x).length;simp
    have hSi:(0:Int)<(S.size:Int):=by omega
    have hSf:S[0]'hS0=f:=by subst hS;rfl
    have H3:((f.toNat:Int)==(b.toNat:Int))=(f==b):=by
     rw[Bool.eq_iff_iff]
     simp only[beq_iff_eq]
     exact⟨fun h=>UInt8.toNat_inj.1 (by omega),fun h=>by rw[h]⟩
    have H0:f∈firsts:=by
     rw[←hf,List.getD_eq_getElem?_getD,List.getElem?_eq_getElem (show m<firsts.length from hlt)]
     exact List.getElem_mem _
    cases hq:(f==b)with
    | true=>
     rw[hq]at H3
     have HR:=zh (show firsts.contains b=true by
      rw[List.contains_iff_mem,←show f=b by simpa using hq]
      exact H0)
     clear H2 hx hf hq H0 hS
     go_wp2
     go_ret
     rw[HW.o,HR.o]
     exact⟨rfl,hb⟩
    | false=>
     rw[hq]at H3 H2
     have HG:=zh H2
     clear H2 hx hf hq H0 hS
     go_wp2
     go_roundg (14-(m+1))
     case measure=>have:=HN.o;omega
     case rel=>exact⟨m+1,rfl,by simp,hlt,rfl,HG.o⟩
   ·have H5:¬(m:Int)<14:=by omega
    have H6:m=14:=by omega
    have HR:=zh (show firsts.contains b=false by have:=HC.o;rw[H6]at this;exact this)
    go_wp2
    go_ret
    rw[HW.o,HR.o]
    exact⟨rfl,hb⟩
theorem zfZ {w:World} {g t:Nat} {a b c d e f h:Value} (hh:w.heap[g]? =some (.cells #[a,b,c,d,e,f,h] t (0,0))) :
  (w.cell? ⟨g,0,none⟩=some a∧w.cell? ⟨g,1,none⟩=some b∧w.cell? ⟨g,2,none⟩=some c∧w.cell? ⟨g,3,none⟩=some d∧w.cell? ⟨g,4,none⟩=some e∧w.cell? ⟨g,5,none⟩=some f∧w.cell? ⟨g,6,none⟩=some h)∧
  (w.frozen? ⟨g,0,none⟩=false∧w.frozen? ⟨g,1,none⟩=false∧w.frozen? ⟨g,2,none⟩=false∧w.frozen? ⟨g,3,none⟩=false∧w.frozen? ⟨g,4,none⟩=false∧w.frozen? ⟨g,5,none⟩=false∧w.frozen? ⟨g,6,none⟩=false)∧g<w.heap.size:=
 ⟨⟨zdZ hh 0,zdZ hh 1,zdZ hh 2,zdZ hh 3,zdZ hh 4,zdZ hh 5,zdZ hh 6⟩,⟨ztZ hh 0,ztZ hh 1,ztZ hh 2,ztZ hh 3,ztZ hh 4,ztZ hh 5,ztZ hh 6⟩,zaZ hh⟩
theorem BSet {w W:World} {g j:Nat} {v:Value} (h:Below w.heap.size w W) (hg:w.heap.size≤g):Below w.heap.size w (W.setCell ⟨g,j,none⟩ v):=Below.turn h (zjZ W g j v) (fun r e=>by injection e with e;omega)
theorem BAlloc {w W:World} {o:Obj} (h:Below w.heap.size w W):Below w.heap.size w (W.alloc o):=h.alloc h.size o
theorem Below.chain {w W X:World} (h:Below w.heap.size w W) (h':Below W.heap.size W X):Below w.heap.size w X:=h.trans (h'.mono h.size)
theorem zhsZ {l:Lx.Bytes} {c:UInt8} (h:isWord l=true) (hc:l.head? =some c):Lx.great c=false:=by
 have H0:∀x∈Lx.words,(x.head?.map Lx.great).getD false=false:=by decide
 have:=H0 l (List.contains_iff_mem.1 h)
 rw[hc]at this
 simpa using this
theorem zupZ (s:ByteArray) (k:Nat) (w:World) (hk:k<s.size) (hs:s.size≤140737488351232) (hl:Lx.letter (s[k]'hk)=true) :
  Calls Tryz.prog 167 #[.string s,.int .i64 (k:Int)] w fun e w'=>e=.returned (cutV k (Lx.cutName k (s.data.toList.drop k)))∧Below w.heap.size w w':=by
 have Hq:(s.size:Int)≤140737488351232:=by omega
 have Hp:(k:Int)≤(s.size:Int):=by omega
 have Hr:(0:Int)≤(k:Int):=by omega
 go_enter Tryz.func167, Tryz.ntmps167
 go_upto_region 1 with fail
 have H8:=heap_alloc_new w (.cells #[.int .i64 0,.int .i64 0,.string ⟨#[]⟩,.int .i64 0,.int .i64 0,.int .i64 0,.int .i64 0] 193)
 have hb:=zeZ (World.grownBy_alloc w (.cells #[.int .i64 0,.int .i64 0,.string ⟨#[]⟩,.int .i64 0,.int .i64 0,.int .i64 0,.int .i64 0] 193) none)
 obtain⟨W1,hW1⟩:=zE (w.alloc (.cells #[.int .i64 0,.int .i64 0,.string ⟨#[]⟩,.int .i64 0,.int .i64 0,.int .i64 0,.int .i64 0] 193))
 rw[hW1]at H8 hb ⊢
 have H7:=zh H8
 have Hm:=zaZ H8
 clear H8 hW1
 go_wp2_with fail
 go_loopg [5] (s.size-k) (fun n v wr=>∃m:Nat,n=s.size-m∧v=.int .i64 (m:Int)∧k≤m∧m≤s.size∧m≤k+32∧wr=W1∧(s.data.toList.drop k).takeWhile Lx.within=(s.data.toList.drop k).take (m-k)++(s.data.toList.drop m).takeWhile Lx.within)
 case atStart=>exact⟨k,rfl,rfl,Nat.le_refl _,by omega,by omega,rfl,by simp⟩
 case round=>
  obtain⟨m,hn,rfl,hkm,hm,hm32,rfl,he⟩:=hrel
  have HE:=zh he
  have HN:=zh hn
  clear he hn
  have Hs:(0:Int)≤(m:Int):=by omega
  have Hn:(k:Int)≤(m:Int):=by omega
  by_cases hlt:m<s.size
  ·have hi:(m:Int)<(s.size:Int):=by omega
   have Hk:=zh (zlZ s m hlt)
   cases hwi:Lx.within (s[m]'hlt)with
   | true=>
    by_cases h32:m=k+32
    ·have hB:((m:Int)-(k:Int)==32)=true:=by simp;omega
     have HR:=zh (zgaZ h32 hlt hwi HE.o)
     have Ho:=zh h32
     clear h32
     have H3:=zgtZ (s[m]'hlt) wr
     rw[hwi]at H3
     have Hj:=zbtZ 2 (m:Int) wr
     clear hwi
     go_wp2_with (first
      | (go_at_call 180;refine H3.mono ?_;clear H3;rintro e w' ⟨rfl,H2⟩;rw[←H2];clear H2)
      | (go_at_call 170;refine Hj.mono ?_;clear Hj;rintro e W3 ⟨rfl,Hl⟩;obtain⟨⟨a0,a1,a2,a3,a4,a5,a6⟩,⟨f0,f1,f2,f3,f4,f5,f6⟩,hl3⟩:=zfZ ((Hl.block _ Hm).trans H7.o)))
     refine bodyPost_ret (v:=.agg #[.int .i64 0,.int .i64 0,.string ⟨#[]⟩,.int .i64 0,.int .i64 0,.int .i64 2,.int .i64 (m:Int)]) (by simp[results, Tryz.results167,go_sem,a0,a1,a2,a3,a4,a5,a6,f0,f1,f2,f3,f4,f5,f6,hl3]) rfl ?_
     rw[HR.o,←Ho.o]
     have Hb:=Below.chain hb Hl
     refine⟨rfl,?_⟩
     repeat (first | (with_reducible exact Hb) | with_reducible refine BSet ?_ (Nat.le_refl _))
    ·have hB:((m:Int)-(k:Int)==32)=false:=by simp;omega
     have HG:=zh (zcfZ s k m hkm hlt)
     have H3:=zgtZ (s[m]'hlt) wr
     rw[hwi]at H3
     have HW:=zh hwi
     clear hwi
     go_wp2_with (go_at_call 180;refine H3.mono ?_;clear H3;rintro e w' ⟨rfl,H2⟩;rw[←H2];clear H2)
     go_roundg (s.size-(m+1))
     case measure=>have:=HN.o;omega
     case rel=>
      refine⟨m+1,rfl,by simp,by omega,hlt,by omega,rfl,?_⟩
      rw[HG.o,HE.o,Hk.o,List.takeWhile_cons,if_pos HW.o]
      simp
   | false=>
    have H6:(s.data.toList.drop k).takeWhile Lx.within=(s.data.toList.drop k).take (m-k):=by
     have e:=HE.o
     rw[Hk.o,List.takeWhile_cons,hwi]at e
     simpa using e
    have HF:=zh H6
    have Hh:k<m:=by
     rcases Nat.lt_or_ge k m with h | h
     ·exact h
     ·exfalso
      have e:=HF.o
      rw[zlZ s k hk,List.takeWhile_cons,if_pos (by simp[Lx.within,hl]),show m-k=0 from by omega]at e
      simp at e
    have HR:=zh (zeiZ (by omega) hm hm32 HF.o)
    have Hf:(m:Int)≤(s.size:Int):=by omega
    have Hi:(k:Int)<(s.size:Int):=by omega
    obtain⟨S,hS⟩:∃S:ByteArray,s.extract k m=S:=⟨_,rfl⟩
    have hSd:S.data.toList=(s.data.toList.drop k).take (m-k):=by rw[←hS,zbpZ]
    have H1:(⟨((s.data.toList.drop k).take (m-k)).toArray⟩:ByteArray)=S:=by rw[←hSd,zchZ]
    have H0:((s.data.toList.drop k).take (m-k)).head? =some (s[k]'hk):=by
     rw[zlZ s k hk]
     obtain⟨j,hj⟩:∃j,m-k=j+1:=⟨m-k-1,by omega⟩
     rw[hj,List.take_succ_cons]
     rfl
    obtain⟨c,hc⟩:=zE (s[k]'hk)
    rw[hc]at H0
    have Hc:Lx.nameKind ((s.data.toList.drop k).take (m-k))=if isWord S.data.toList then 3 else if Lx.great c then 2 else 1:=by
     unfold Lx.nameKind isWord
     rw[H0,hSd,Option.map_some,Option.getD_some]
    have H4:=zh Hc
    have HX:=zh (show isWord S.data.toList=true→Lx.great c=false from fun h=>zhsZ h (by rw[hSd];exact H0))
    have Ha:=zh H1
    have He:=fun X=>zbnZ c X
    have Hd:=fun X=>zmrZ S X
    obtain⟨wb,hwb⟩:=zE (isWord S.data.toList)
    obtain⟨gb,hgb⟩:=zE (Lx.great c)
    rw[hwb]at H4
    rw[hgb]at H4
    rw[hwb,hgb]at HX
    obtain⟨⟨p0,p1,p2,p3,p4,p5,p6⟩,⟨g0,g1,g2,g3,g4,g5,g6⟩,hl0⟩:=zfZ H7.o
    rw[hwb]at Hd
    rw[hgb]at He
    have H5:=H7.o
    clear H6 Hc H0 hSd H1 hwb hgb HE HN
    have H3:=zgtZ (s[m]'hlt) wr
    rw[hwi]at H3
    clear hwi
    cases gb <;> cases wb
    all_goals try (exact absurd (HX.o rfl) (by decide))
    all_goals
     go_wp2_with (first
      | (go_at_call 180;refine H3.mono ?_;clear H3;rintro e w' ⟨rfl,H2⟩;rw[←H2];clear H2)
      | (go_at_call 165;refine(He _).mono ?_;rintro e w' ⟨rfl,H2⟩;rw[←H2];clear H2)
      | (go_at_call 181;refine(Hd _).mono ?_;rintro e W5 ⟨rfl,H9⟩;obtain⟨⟨a0,a1,a2,a3,a4,a5,a6⟩,⟨f0,f1,f2,f3,f4,f5,f6⟩,hl5⟩:=zfZ ((H9.block _ (by simp;omega)).trans (heap_alloc H5 _));have hT5:=(H9.block wr.heap.size (by simp)).trans (heap_alloc_new wr _);obtain⟨t0,t1,t2,t3⟩:=zhZ hT5;obtain⟨e0,e1,e2,e3⟩:=zrZ hT5;have Hg:=zaZ hT5;have Hb:=Below.chain (BAlloc hb) H9))
    ·refine bodyPost_ret (v:=.agg #[.int .i64 (k:Int),.int .i64 1,.string S,.int .i64 0,.int .i64 (m:Int),.int .i64 0,.int .i64 0]) (by simp[results, Tryz.results167,go_sem,a0,a1,a2,a3,a4,a5,a6,f0,f1,f2,f3,f4,f5,f6,hl5]) rfl ?_
     rw[HR.o]
     refine⟨?_,?_⟩
     ·unfold cutV
      simp only[Ha.o]
      rw[show k+(m-k)=m by omega,H4.o]
      rfl
     ·repeat (first | (with_reducible exact Hb) | (with_reducible exact hb) | (with_reducible refine BSet ?_ (Nat.le_refl _)) | (with_reducible refine BSet ?_ hb.size) | (with_reducible refine BAlloc ?_))
    ·refine bodyPost_ret (v:=.agg #[.int .i64 (k:Int),.int .i64 3,.string S,.int .i64 0,.int .i64 (m:Int),.int .i64 0,.int .i64 0]) (by simp[results, Tryz.results167,go_sem,a0,a1,a2,a3,a4,a5,a6,f0,f1,f2,f3,f4,f5,f6,hl5]) rfl ?_
     rw[HR.o]
     refine⟨?_,?_⟩
     ·unfold cutV
      simp only[Ha.o]
      rw[show k+(m-k)=m by omega,H4.o]
      rfl
     ·repeat (first | (with_reducible exact Hb) | (with_reducible exact hb) | (with_reducible refine BSet ?_ (Nat.le_refl _)) | (with_reducible refine BSet ?_ hb.size) | (with_reducible refine BAlloc ?_))
    ·refine bodyPost_ret (v:=.agg #[.int .i64 (k:Int),.int .i64 2,.string S,.int .i64 0,.int .i64 (m:Int),.int .i64 0,.int .i64 0]) (by simp[results, Tryz.results167,go_sem,p0,p1,p2,p3,p4,p5,p6,g0,g1,g2,g3,g4,g5,g6,hl0]) rfl ?_
     rw[HR.o]
     refine⟨?_,?_⟩
     ·unfold cutV
      simp only[Ha.o]
      rw[show k+(m-k)=m by omega,H4.o]
      rfl
     ·repeat (first | (with_reducible exact hb) | (with_reducible refine BSet ?_ (Nat.le_refl _)) | (with_reducible refine BSet ?_ hb.size) | (with_reducible refine BAlloc ?_))
  ·have hi:¬(m:Int)<(s.size:Int):=by omega
   have H6:(s.data.toList.drop k).takeWhile Lx.within=(s.data.toList.drop k).take (m-k):=by
    have e:=HE.o
    rw[List.drop_eq_nil_of_le (show s.data.toList.length≤m by rw[ziZ];omega)]at e
    simpa using e
   have HF:=zh H6
   have Hh:k<m:=by
    rcases Nat.lt_or_ge k m with h | h
    ·exact h
    ·exfalso
     have e:=HF.o
     rw[zlZ s k hk,List.takeWhile_cons,if_pos (by simp[Lx.within,hl]),show m-k=0 from by omega]at e
     simp at e
   have HR:=zh (zeiZ (by omega) hm hm32 HF.o)
   have Hf:(m:Int)≤(s.size:Int):=by omega
   have Hi:(k:Int)<(s.size:Int):=by omega
   obtain⟨S,hS⟩:∃S:ByteArray,s.extract k m=S:=⟨_,rfl⟩
   have hSd:S.data.toList=(s.data.toList.drop k).take (m-k):=by rw[←hS,zbpZ]
   have H1:(⟨((s.data.toList.drop k).take (m-k)).toArray⟩:ByteArray)=S:=by rw[←hSd,zchZ]
   have H0:((s.data.toList.drop k).take (m-k)).head? =some (s[k]'hk):=by
    rw[zlZ s k hk]
    obtain⟨j,hj⟩:∃j,m-k=j+1:=⟨m-k-1,by omega⟩
    rw[hj,List.take_succ_cons]
    rfl
   obtain⟨c,hc⟩:=zE (s[k]'hk)
   rw[hc]at H0
   have Hc:Lx.nameKind ((s.data.toList.drop k).take (m-k))=if isWord S.data.toList then 3 else if Lx.great c then 2 else 1:=by
    unfold Lx.nameKind isWord
    rw[H0,hSd,Option.map_some,Option.getD_some]
   have H4:=zh Hc
   have HX:=zh (show isWord S.data.toList=true→Lx.great c=false from fun h=>zhsZ h (by rw[hSd];exact H0))
   have Ha:=zh H1
   have He:=fun X=>zbnZ c X
   have Hd:=fun X=>zmrZ S X
   obtain⟨wb,hwb⟩:=zE (isWord S.data.toList)
   obtain⟨gb,hgb⟩:=zE (Lx.great c)
   rw[hwb]at H4
   rw[hgb]at H4
   rw[hwb,hgb]at HX
   obtain⟨⟨p0,p1,p2,p3,p4,p5,p6⟩,⟨g0,g1,g2,g3,g4,g5,g6⟩,hl0⟩:=zfZ H7.o
   rw[hwb]at Hd
   rw[hgb]at He
   have H5:=H7.o
   clear H6 Hc H0 hSd H1 hwb hgb HE HN
   cases gb <;> cases wb
   all_goals try (exact absurd (HX.o rfl) (by decide))
   all_goals
    go_wp2_with (first
     | (go_at_call 165;refine(He _).mono ?_;rintro e w' ⟨rfl,H2⟩;rw[←H2];clear H2)
     | (go_at_call 181;refine(Hd _).mono ?_;rintro e W5 ⟨rfl,H9⟩;obtain⟨⟨a0,a1,a2,a3,a4,a5,a6⟩,⟨f0,f1,f2,f3,f4,f5,f6⟩,hl5⟩:=zfZ ((H9.block _ (by simp;omega)).trans (heap_alloc H5 _));have hT5:=(H9.block wr.heap.size (by simp)).trans (heap_alloc_new wr _);obtain⟨t0,t1,t2,t3⟩:=zhZ hT5;obtain⟨e0,e1,e2,e3⟩:=zrZ hT5;have Hg:=zaZ hT5;have Hb:=Below.chain (BAlloc hb) H9))
   ·refine bodyPost_ret (v:=.agg #[.int .i64 (k:Int),.int .i64 1,.string S,.int .i64 0,.int .i64 (m:Int),.int .i64 0,.int .i64 0]) (by simp[results, Tryz.results167,go_sem,a0,a1,a2,a3,a4,a5,a6,f0,f1,f2,f3,f4,f5,f6,hl5]) rfl ?_
    rw[HR.o]
    refine⟨?_,?_⟩
    ·unfold cutV
     simp only[Ha.o]
     rw[show k+(m-k)=m by omega,H4.o]
     rfl
    ·repeat (first | (with_reducible exact Hb) | (with_reducible exact hb) | (with_reducible refine BSet ?_ (Nat.le_refl _)) | (with_reducible refine BSet ?_ hb.size) | (with_reducible refine BAlloc ?_))
   ·refine bodyPost_ret (v:=.agg #[.int .i64 (k:Int),.int .i64 3,.string S,.int .i64 0,.int .i64 (m:Int),.int .i64 0,.int .i64 0]) (by simp[results, Tryz.results167,go_sem,a0,a1,a2,a3,a4,a5,a6,f0,f1,f2,f3,f4,f5,f6,hl5]) rfl ?_
    rw[HR.o]
    refine⟨?_,?_⟩
    ·unfold cutV
     simp only[Ha.o]
     rw[show k+(m-k)=m by omega,H4.o]
     rfl
    ·repeat (first | (with_reducible exact Hb) | (with_reducible exact hb) | (with_reducible refine BSet ?_ (Nat.le_refl _)) | (with_reducible refine BSet ?_ hb.size) | (with_reducible refine BAlloc ?_))
   ·refine bodyPost_ret (v:=.agg #[.int .i64 (k:Int),.int .i64 2,.string S,.int .i64 0,.int .i64 (m:Int),.int .i64 0,.int .i64 0]) (by simp[results, Tryz.results167,go_sem,p0,p1,p2,p3,p4,p5,p6,g0,g1,g2,g3,g4,g5,g6,hl0]) rfl ?_
    rw[HR.o]
    refine⟨?_,?_⟩
    ·unfold cutV
     simp only[Ha.o]
     rw[show k+(m-k)=m by omega,H4.o]
     rfl
    ·repeat (first | (with_reducible exact hb) | (with_reducible refine BSet ?_ (Nat.le_refl _)) | (with_reducible refine BSet ?_ hb.size) | (with_reducible refine BAlloc ?_))
end Go.Proofs.YtdncljdfmdgdaaaGreatDoor
