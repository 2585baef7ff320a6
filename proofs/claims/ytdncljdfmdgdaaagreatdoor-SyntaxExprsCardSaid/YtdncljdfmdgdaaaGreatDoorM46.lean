/-
  The walks of block, stmts.
-/
import Derived.Test.YtdncljdfmdgdaaaGreatDoorM1
import Derived.Test.YtdncljdfmdgdaaaGreatDoorM26
import Derived.Test.YtdncljdfmdgdaaaGreatDoorM45
import Derived.Test.YtdncljdfmdgdaaaGreatDoorM17
import Derived.Test.YtdncljdfmdgdaaaGreatDoorM16
import Derived.Test.YtdncljdfmdgdaaaGreatDoorM23
import Derived.Test.YtdncljdfmdgdaaaGreatDoorM27
import Derived.KernelRfl
set_option linter.unusedSimpArgs false
set_option linter.unusedVariables false
set_option maxRecDepth 100000
set_option maxHeartbeats 32000000
namespace Go.Proofs.YtdncljdfmdgdaaaGreatDoor
open Go.RowKit Go.Shelf Go.WideMaps
theorem oSt:Other 69 :=⟨by decide,by decide⟩
def Sx.okS (s:Sx.St):Prop:=∃d,Sx.rightS NM d s=true
theorem Sx.rightSs_mem {d:Nat} : ∀ {l:List Sx.St},Sx.rightSs NM d l=true→∀p∈l,Sx.rightS NM d p=true
 | x::l,h,p,hp=>by
  rw[Sx.rightSs,Bool.and_eq_true]at h
  rcases List.mem_cons.1 hp with rfl | hp
  ·exact h.1
  ·exact Sx.rightSs_mem h.2 p hp
structure Sx.Good (s:Sx.St):Prop where
 k:1≤s.kind∧s.kind≤7
 x:s.x.length=1∧∀h:0<s.x.length,Sx.rightX NM 64 (s.x[0]'h)=true
 nm:(s.kind=1∨s.kind=2)→NM.small s.name=true
 t:s.t.length=0∨(s.kind=1∧s.t.length=1∧Sx.right0 s.t=true)
 b:s.kind=4∨s.kind=5∨s.body=[]
 e:s.kind=4∨s.els=[]
 bs:∀p∈s.body,Sx.okS p
 es:∀p∈s.els,Sx.okS p
theorem Sx.okS.good {s:Sx.St} (h:Sx.okS s):Sx.Good s:=by
 obtain⟨d,h⟩:=h
 rw[Sx.rightS_eq]at h
 unfold Sx.restS at h
 simp only[Bool.and_eq_true,Bool.or_eq_true,decide_eq_true_eq]at h
 obtain⟨h0,h1,h2,h3,h4,h5,h6,h7,h8,h9⟩:=h
 refine⟨h3,⟨h1,?_⟩,fun hk=>by rw[if_pos hk]at h4;exact h4,?_,?_,?_,fun p hp=>⟨_,Sx.rightSs_mem h8 p hp⟩,fun p hp=>⟨_,Sx.rightSs_mem h9 p hp⟩⟩
 ·intro h;rw[Sx.head0_at];exact h2
 ·rcases h5 with h | h
  ·exact .inl h
  ·exact .inr h
 ·rcases h6 with(h | h) | h
  ·exact .inl h
  ·exact .inr (.inl h)
  ·exact .inr (.inr (List.length_eq_zero_iff.1 h))
 ·rcases h7 with h | h
  ·exact .inl h
  ·exact .inr (List.length_eq_zero_iff.1 h)
def Sx.braced (l:List Sx.St):List Lx.Bytes:=[[123]]++Sx.stmts SY l++[[125]]
theorem Sx.stmts_append (S:Sx.Says):∀(l m:List Sx.St),Sx.stmts S (l++m)=Sx.stmts S l++Sx.stmts S m
 | [],m=>by simp[Sx.stmts]
 | x::l,m=>by rw[List.cons_append,Sx.stmts,Sx.stmts,Sx.stmts_append S l m,List.append_assoc]
theorem Sx.stmts_take {l:List Sx.St} {m:Nat} (h:m<l.length):Sx.stmts SY (l.take (m+1))=Sx.stmts SY (l.take m)++Sx.stmt SY l[m]:=by
 rw[List.take_succ_eq_append_getElem h,Sx.stmts_append]
 simp[Sx.stmts]
theorem Sx.stmts_le (l:List Sx.St) (m:Nat):(Sx.stmts SY (l.take m)).length≤(Sx.stmts SY l).length:=by
 conv=>rhs;rw[←List.take_append_drop m l,Sx.stmts_append,List.length_append]
 omega
theorem Sx.first0:∀ {x:List Sx.Ex} (h:0<x.length),Sx.first SY 0 x=Sx.expr SY (x[0]'h)
 | a::l,h=>by rw[Sx.first_head 0 h];unfold Sx.part;rw[if_neg (by omega)]
theorem Sx.stmt_eq (s:Sx.St) (h:0<s.x.length):Sx.stmt SY s=
  (if s.kind=1 then [[108,101,116],s.name]++Sx.typL s.t++[[61]]else if s.kind=2 then [s.name,[61]]else if s.kind=3 then [[112,114,105,110,116]]else if s.kind=4 then [[105,102]]
   else if s.kind=5 then [[119,104,105,108,101]]else if s.kind=6 then [[114,101,116,117,114,110]]else [])++
  Sx.expr SY (s.x[0]'h)++
  (if s.kind≠4∧s.kind≠5 then [[59]]else if s.els.isEmpty then Sx.braced s.body
   else Sx.braced s.body++[[101,108,115,101]]++Sx.braced s.els):=by
 rw[←Sx.first0 h]
 cases s;rw[Sx.stmt];simp only[Sx.braced,List.append_assoc];rfl
theorem Sx.nameS_len (s:Sx.St):s.name.length≤Sx.sizeS s:=by
 have h1:=Sx.sizeS_parts s
 omega
def StmtsOk (W0:World) (b:Nat) (xs:List Sx.St):Prop:=∀(v:Value) (l:List Lx.Bytes) (w:World),(∀s∈xs,Sx.okS s)→StRow W0 v xs→Sx.sizeSs xs≤1000000→Wrote W0 b l.length l w→l.length+(Sx.stmts SY xs).length≤900000000→
 Calls Tryz.prog 66 #[.pointer (some ⟨b,0,none⟩),v] w fun e w'=>e=.returned (.tuple #[])∧Wrote W0 b (l++Sx.stmts SY xs).length (l++Sx.stmts SY xs) w'∧KeepW w w'
def BlockOk (W0:World) (b:Nat) (xs:List Sx.St):Prop:=∀(v:Value) (l:List Lx.Bytes) (w:World),(∀s∈xs,Sx.okS s)→StRow W0 v xs→Sx.sizeSs xs≤1000000→Wrote W0 b l.length l w→l.length+(Sx.braced xs).length≤900000000→
 Calls Tryz.prog 121 #[.pointer (some ⟨b,0,none⟩),v] w fun e w'=>e=.returned (.tuple #[])∧Wrote W0 b (l++Sx.braced xs).length (l++Sx.braced xs) w'∧KeepW w w'
theorem zlhZ {W0:World} {b:Nat} {xs:List Sx.St} (ih:StmtsOk W0 b xs):BlockOk W0 b xs:=by
 intro v l w hr ht hz h hc
 have H0:(Sx.braced xs).length=(Sx.stmts SY xs).length+2:=by simp[Sx.braced]
 obtain⟨m,hm⟩:=zE (Sx.stmts SY xs)
 have H2:Sx.braced xs=[[123]]++m++[[125]]:=by unfold Sx.braced;rw[hm]
 rw[hm]at H0
 have H9:l.length+1≤1000000000:=by omega
 have Hd:(l++[[123]]).length+m.length≤900000000:=by simp;omega
 have Hb:(l++[[123]]++m).length+1≤1000000000:=by simp;omega
 have hE:∀w,Wrote W0 b (l++[[123]]).length (l++[[123]]) w→Calls Tryz.prog 66 #[.pointer (some ⟨b,0,none⟩),v] w fun e w'=>e=.returned (.tuple #[])∧Wrote W0 b (l++[[123]]++m).length (l++[[123]]++m) w'∧KeepW w w':=fun w hw=>by
  have:=ih v (l++[[123]]) w hr ht hz hw (by rw[hm];exact Hd)
  rwa [hm]at this
 obtain⟨A,c,rfl,-,-⟩:=ht
 have HE:=zh hE
 have Ha:=zh H2
 have HX:=zh h
 have H7:=h.lt
 clear hE H2 ih hr hm hc H0 hz h
 go_enter Tryz.func121, Tryz.ntmps121
 go_upto_region 1 with(go_at_call 100;refine(put1 (s:=[123]) HX.o ⟨by simp,by simp⟩ H9).mono ?_;rintro e w3 ⟨rfl,hW3,H5⟩)
 have H3:=zh hW3.tight
 have Hc:=zh H5
 have H1:=hW3.lt
 clear hW3 H5 H7
 go_upto_region 2 with(go_at_call 66;refine(HE.o w3 H3.o).mono ?_;rintro e w4 ⟨rfl,hW4,H6⟩)
 have H4:=zh hW4
 have H8:=zh (Hc.o.trans H6)
 have He:=hW4.lt
 clear hW4 H6 H1
 go_wp2_with (go_at_call 100;refine(put1 (s:=[125]) H4.o ⟨by simp,by simp⟩ Hb).mono ?_;rintro e w5 ⟨rfl,hW5,Hf⟩)
 go_end0
 refine⟨rfl,?_,H8.o.trans Hf⟩
 rw[Ha.o]
 simpa[List.append_assoc]using hW5.tight
theorem zliZ {W0:World} {b:Nat} {xs:List Sx.St} (hG:GS W0) (hN:NG≤W0.heap.size) (ihb:∀s∈xs,BlockOk W0 b s.body) (ihe:∀s∈xs,BlockOk W0 b s.els):StmtsOk W0 b xs:=by
 intro v l w hr ht hz h hc
 have Jw:=Sx.length_sizeSs xs
 obtain⟨A,c,rfl,hcap,hrow⟩:=ht
 have ht:StRow W0 (.slice A xs.length c) xs:=⟨A,c,rfl,hcap,hrow⟩
 obtain⟨k,hk⟩:=zE (xs.length)
 rw[hk]at ht ⊢
 have Ua:(k:Int)≤1000000:=by omega
 have Ub:(0:Int)≤(k:Int):=by omega
 obtain⟨lf,hlf⟩:=zE ((Sx.stmts SY xs).length)
 have U9:l.length+lf≤900000000:=by omega
 have U5:=h.lt
 have HX:=zh h
 have HK:=zh hk
 have HP:=zh ht
 have HR:=zh hr
 have HZ:=zh hz
 have Jq:=zh ihb
 have Jr:=zh ihe
 have HG:=zh hG
 have HN:=zh hN
 have Jv:=zh hlf
 have HS:=zh (show Wrote W0 b (l++Sx.stmts SY (xs.take 0)).length (l++Sx.stmts SY (xs.take 0)) w by simpa[Sx.stmts]using h)
 clear h hr ht hz hc hk ihb ihe hG hN Jw hcap hrow hlf
 go_enter Tryz.func66, Tryz.ntmps66
 go_wp2_with fail
 go_loopg [10] k (fun i v wr=>∃(m:Nat),i=k-m∧v=.int .i64 (m:Int)∧m≤k∧Wrote W0 b (l++Sx.stmts SY (xs.take m)).length (l++Sx.stmts SY (xs.take m)) wr∧KeepW w wr)
 case atStart=>exact⟨0,rfl,rfl,Nat.zero_le _,HS.o,KeepW.refl _⟩
 case round=>
  obtain⟨m,hi,rfl,hm,hW,hkw⟩:=hrel
  have HI:=zh hi
  have m0:(0:Int)≤(m:Int):=by omega
  have U0:=hW.lt
  have Hv:=zh hkw
  have Jk:=zh hW
  clear hi hW hkw
  by_cases hlt:m<k
  ·have U4:(m:Int)<(k:Int):=by omega
   have Je:m<xs.length:=by have:=HK.o;omega
   have H0:=Sx.stmts_le xs (m+1)
   obtain⟨g,off,At,ct,Ax,cx,Ab,cb,Ae,ce,rfl,hty,hc7⟩:=HP.o.spot m Je
   obtain⟨s,hse⟩:=zE (xs[m]'Je)
   have Hu:s∈xs:=by rw[←hse];exact List.getElem_mem Je
   have Ha:=Sx.stmts_take Je
   rw[hse]at hc7 hty Ha
   have U3:=(HR.o s Hu).good
   obtain⟨hk17,⟨hx1,hxr⟩,hnm,Hd,hbg,heg,hbs,hes⟩:=U3
   obtain⟨hg,c0,c1,c2,c3,c4,c5,c6⟩:=hc7 wr Jk.o.below
   have U2:=Sx.sizeS_mem Hu
   have Jg:=Sx.sizeS_parts s
   have Hh:Sx.sizeS s≤1000000:=by have:=HZ.o;omega
   have Hx:=Sx.nameS_len s
   obtain⟨At',ct',Ax',cx',Ab',cb',Ae',ce',hagg,htt,hxx,hbb,hee⟩:=hty.agg
   injection hagg with hagg
   simp only[Array.mk.injEq,List.cons.injEq,and_true,true_and]at hagg
   obtain⟨ea,eb,ec,ed⟩:=hagg
   injection ea with ea1 _ ea2
   injection eb with eb1 _ eb2
   injection ec with ec1 _ ec2
   injection ed with ed1 _ ed2
   subst ea1 ea2 eb1 eb2 ec1 ec2 ed1 ed2
   have J9:0<s.x.length:=by omega
   obtain⟨gX,offX,AtX,ctX,AnX,cnX,AqX,cqX,rfl,htyX,hcX⟩:=hxx.spot 0 J9
   have H1:=Sx.stmt_eq s J9
   have Hq:=List.getElem_mem J9
   have J6:=hxr J9
   obtain⟨x0e,hx0e⟩:=zE (s.x[0]'J9)
   rw[hx0e]at hcX htyX H1 Hq J6
   have Jm:Sx.sizeX x0e≤1000000:=by have:=Sx.sizeX_mem Hq;omega
   have hEXP:=zhlZ (b:=b) HG.o HN.o _ x0e (Nat.le_refl _)
   obtain⟨qx,hqx⟩:=zE (Sx.expr SY x0e)
   obtain⟨qb,hqb⟩:=zE (Sx.braced s.body)
   obtain⟨qe,hqe⟩:=zE (Sx.braced s.els)
   rw[hqx,hqb,hqe]at H1
   rw[Ha]at H0
   obtain⟨lm,hlm⟩:=zE (Sx.stmts SY (xs.take m))
   rw[hlm,Jv.o]at H0
   rw[hlm]at Ha
   simp only[List.length_append]at H0
   have J3:=zh (show Wrote W0 b (l++lm).length (l++lm) wr by rw[←hlm];exact Jk.o)
   obtain⟨L,hL⟩:=zE (wr.heap.size)
   obtain⟨tl,htl⟩:=zE (s.t.length)
   obtain⟨bl,hbl⟩:=zE (s.body.length)
   obtain⟨el,hel⟩:=zE (s.els.length)
   rw[hx1]at c4
   rw[htl]at c3 htt
   rw[hbl]at c5 hbb
   rw[hel]at c6 hee
   rw[htl]at Hd
   have H2:=zh hcX
   have Hg:=zh htyX
   have Jj:=zh (fun l w (hw:Wrote W0 b l.length l w) (hc:l.length+qb.length≤900000000)=>by
    have:=Jq.o s Hu _ l w hbs hbb (by omega) hw (by rw[hqb];exact hc)
    rwa [hqb]at this)
   have Jo:=zh (fun l w (hw:Wrote W0 b l.length l w) (hc:l.length+qe.length≤900000000)=>by
    have:=Jr.o s Hu _ l w hes hee (by omega) hw (by rw[hqe];exact hc)
    rwa [hqe]at this)
   have Hz:=zh (fun u l w (hu:IsEx W0 u x0e) (hw:Wrote W0 b l.length l w) (hc:l.length+qx.length≤900000000)=>by
    have:=hEXP u l w ⟨64,J6⟩ hu Jm hw (by rw[hqx];exact hc)
    rwa [hqx]at this)
   have J8:=zh hbl
   clear hcX htyX hEXP hty hc7 hlm Hu hbs hes hxx hbb hee hxr hx0e hqx hqb hqe J6 Hq Jm U2 Jg hbl hse hx1 J9
   by_cases hkd1:s.kind=1
   ·rw[hkd1]at c1 H1
    rcases Hd with Hd | ⟨-,Hd,htr⟩
    ·skip
     subst Hd
     have He:bl=0:=by
      rcases hbg with h | h | h
      ·omega
      ·omega
      ·rw[←J8.o,h];rfl
     have Hn:el=0:=by
      rcases heg with h | h
      ·omega
      ·rw[←hel,h];rfl
     subst He Hn
     obtain⟨w4,hw4⟩:=zE (wr.alloc (.cells #[.int .i64 s.pos,.int .i64 1,.string ⟨s.name.toArray⟩,.slice At 0 ct,.slice (some ⟨gX,offX,none⟩) 1 cx,.slice Ab 0 cb,.slice Ae 0 ce] 69))
     have H3:=Live.first J3.o #[.int .i64 s.pos,.int .i64 1,.string ⟨s.name.toArray⟩,.slice At 0 ct,.slice (some ⟨gX,offX,none⟩) 1 cx,.slice Ab 0 cb,.slice Ae 0 ce] 69 hw4
     rw[hL]at H3
     have H4:=zh H3
     clear H3
     have Jc:Sx.typL s.t=[]:=by rw[List.length_eq_zero_iff.1 htl];rfl
     have Hc:Sx.stmt SY s=[[108,101,116],s.name]++[[61]]++qx++[[59]]:=by
      rw[H1]
      simp[Jc]
     rw[Hc]at Ha H0
     simp only[List.length_append,List.length_cons,List.length_nil]at H0
     have Hm:=zh Ha
     have Hl:s.name≠[]∧s.name.length≤1000000000:=⟨NM.ok.small _ (hnm (.inl hkd1)),by omega⟩
     have Hp:=zh Hl
     have J5:(l++lm).length+2≤1000000000:=by simp;omega
     have Ji:(l++lm++[[108,101,116],s.name]).length+1≤1000000000:=by simp;omega
     have Hi:(l++lm++[[108,101,116],s.name]++[[61]]).length+qx.length≤900000000:=by simp;omega
     have Hk:(l++lm++[[108,101,116],s.name]++[[61]]++qx).length+1≤1000000000:=by simp;omega
     clear Hl Ha Hc H1 hnm hbg heg hkd1 hk17 H0 Hx Hh hel Jc
     obtain⟨x0,x1,x2,x3,x4,x5,x6⟩:=zbZ H4.o.b1
     obtain⟨hl1,hl2,hbl⟩:=H4.o.lt
     obtain⟨dg,d0,d1,d2,d3,d4,d5,d6⟩:=H2.o w4 H4.o.wr.below
     rw[Nat.zero_mul,Nat.add_zero]at d0 d1 d2 d3 d4 d5 d6
     go_upto_region 5 with fail
     have J2:=zh H4.o.drew
     go_region_with (go_at_call 100;refine(J2.o.lput2 [108,101,116] s.name ⟨by simp,by simp⟩ Hp.o J5).mono ?_;rintro e w5 ⟨rfl,hW5,Hb⟩)
     have H5:=zh (J2.o.go oSt oSt hW5 Hb)
     clear hW5 Hb
     clear x0 x1 x2 x3 x4 x5 x6 hl1 hl2 hbl d0 d1 d2 d3 d4 d5 d6 dg
     obtain⟨x0,x1,x2,x3,x4,x5,x6⟩:=zbZ H5.o.b1
     obtain⟨hl1,hl2,hbl⟩:=H5.o.lt
     obtain⟨dg,d0,d1,d2,d3,d4,d5,d6⟩:=H2.o w5 H5.o.wr.below
     rw[Nat.zero_mul,Nat.add_zero]at d0 d1 d2 d3 d4 d5 d6
     go_wp2_with fail
     clear x0 x1 x2 x3 x4 x5 x6 hl1 hl2 hbl d0 d1 d2 d3 d4 d5 d6 dg
     have Jb:=zh (show Live W0 b (l++lm++[[108,101,116],s.name]++Sx.typL (s.t.take 0)) wr w5 L #[.int .i64 s.pos,.int .i64 1,.string ⟨s.name.toArray⟩,.slice At 0 ct,.slice (some ⟨gX,offX,none⟩) 1 cx,.slice Ab 0 cb,.slice Ae 0 ce] 69 L #[.int .i64 s.pos,.int .i64 1,.string ⟨s.name.toArray⟩,.slice At 0 ct,.slice (some ⟨gX,offX,none⟩) 1 cx,.slice Ab 0 cb,.slice Ae 0 ce] 69 by simpa[Sx.typL]using H5.o)
     obtain⟨wo,hwo⟩:∃wo:World,wo=wr:=⟨_,rfl⟩
     rw[←hwo]at Jb
     have Hw:=zh hwo
     clear hwo
     go_loopg [28] 0 (fun i v wx=>∃(j:Nat),i=0-j∧v=.int .i64 (j:Int)∧j≤0∧Live W0 b (l++lm++[[108,101,116],s.name]++Sx.typL (s.t.take j)) wo wx L #[.int .i64 s.pos,.int .i64 1,.string ⟨s.name.toArray⟩,.slice At 0 ct,.slice (some ⟨gX,offX,none⟩) 1 cx,.slice Ab 0 cb,.slice Ae 0 ce] 69 L #[.int .i64 s.pos,.int .i64 1,.string ⟨s.name.toArray⟩,.slice At 0 ct,.slice (some ⟨gX,offX,none⟩) 1 cx,.slice Ab 0 cb,.slice Ae 0 ce] 69)
     case atStart=>exact⟨0,rfl,rfl,Nat.zero_le _,Jb.o⟩
     case round=>
      obtain⟨j,hij,rfl,hj,hlive⟩:=hrel
      have Jn:=zh hij
      have J7:=zh hlive
      clear hij hlive
      obtain rfl:j=0:=by omega
      have H7:=zh (show Live W0 b (l++lm++[[108,101,116],s.name]) wo wr L #[.int .i64 s.pos,.int .i64 1,.string ⟨s.name.toArray⟩,.slice At 0 ct,.slice (some ⟨gX,offX,none⟩) 1 cx,.slice Ab 0 cb,.slice Ae 0 ce] 69 L #[.int .i64 s.pos,.int .i64 1,.string ⟨s.name.toArray⟩,.slice At 0 ct,.slice (some ⟨gX,offX,none⟩) 1 cx,.slice Ab 0 cb,.slice Ae 0 ce] 69 by simpa[Sx.typL]using J7.o)
      clear J7
      obtain⟨w7,hw7⟩:=zE (wr)
      rw[hw7]at H7 ⊢
      clear hw7
      obtain⟨x0,x1,x2,x3,x4,x5,x6⟩:=zbZ H7.o.b1
      obtain⟨hl1,hl2,hbl⟩:=H7.o.lt
      obtain⟨dg,d0,d1,d2,d3,d4,d5,d6⟩:=H2.o w7 H7.o.wr.below
      rw[Nat.zero_mul,Nat.add_zero]at d0 d1 d2 d3 d4 d5 d6
      go_upto_region 22 with(go_at_call 100;refine(H7.o.lput1 [61] ⟨by simp,by simp⟩ Ji).mono ?_;rintro e w8 ⟨rfl,hW8,J4⟩)
      have H8:=zh (H7.o.go oSt oSt hW8 J4)
      clear hW8 J4
      clear x0 x1 x2 x3 x4 x5 x6 hl1 hl2 hbl d0 d1 d2 d3 d4 d5 d6 dg
      obtain⟨x0,x1,x2,x3,x4,x5,x6⟩:=zbZ H8.o.b1
      obtain⟨hl1,hl2,hbl⟩:=H8.o.lt
      obtain⟨dg,d0,d1,d2,d3,d4,d5,d6⟩:=H2.o w8 H8.o.wr.below
      rw[Nat.zero_mul,Nat.add_zero]at d0 d1 d2 d3 d4 d5 d6
      go_upto_region 24 with(go_at_call 64;refine(Hz.o _ _ w8 Hg.o H8.o.wr Hi).mono ?_;rintro e w9 ⟨rfl,hW9,Ht⟩)
      have H9:=zh (H8.o.go oSt oSt hW9 Ht)
      clear hW9 Ht
      clear x0 x1 x2 x3 x4 x5 x6 hl1 hl2 hbl d0 d1 d2 d3 d4 d5 d6 dg
      obtain⟨x0,x1,x2,x3,x4,x5,x6⟩:=zbZ H9.o.b1
      obtain⟨hl1,hl2,hbl⟩:=H9.o.lt
      obtain⟨dg,d0,d1,d2,d3,d4,d5,d6⟩:=H2.o w9 H9.o.wr.below
      rw[Nat.zero_mul,Nat.add_zero]at d0 d1 d2 d3 d4 d5 d6
      go_wp2_with (go_at_call 100;refine(H9.o.lput1 [59] ⟨by simp,by simp⟩ Hk).mono ?_;rintro e w10 ⟨rfl,hW10,Hr⟩)
      have Ja:=zh (H9.o.go oSt oSt hW10 Hr)
      clear hW10 Hr
      clear x0 x1 x2 x3 x4 x5 x6 hl1 hl2 hbl d0 d1 d2 d3 d4 d5 d6 dg
      go_roundg (k-(m+1))
      case measure=>have:=HI.o;omega
      case rel=>
       refine⟨m+1,rfl,by simp,hlt,?_,Hv.o.trans (by have h:=Ja.o.kp;first | exact h | (rw[Hw.o]at h;exact h))⟩
       rw[Hm.o]
       simpa[List.append_assoc]using Ja.o.wr
    ·skip
     have Ho:0<s.t.length:=by omega
     obtain⟨gT,offT,AnT,cnT,AeT,ceT,AqT,cqT,rfl,htyT,hcT⟩:=htt.spot 0 Ho
     have Jf:=Sx.right0_head s.t Ho
     rw[htr]at Jf
     have Jd:=Sx.typL_head Ho
     obtain⟨tT,hpeT⟩:=zE (s.t[0]'Ho)
     have J1:tT∈s.t:=by rw[←hpeT];exact List.getElem_mem Ho
     rw[hpeT]at hcT htyT Jf Jd
     have Jy:Sx.size tT≤1000000:=by have:=Sx.size_mem J1;have:=Sx.sizeS_parts s;omega
     have Hy:=(zdwZ NM NM.ok W0 b _ tT (Nat.le_refl _)).1 64
     obtain⟨qt,hqt⟩:=zE (Sx.typ tT)
     unfold TypOk at Hy
     rw[hqt]at Jd Hy
     have Jh:=zh htyT
     have Jp:=zh hcT
     have Jz:=zh (fun u l w (hu:IsTy W0 u tT) (hw:Wrote W0 b l.length l w) (hc:l.length+10 * Sx.size tT≤1000000000)=>by
      exact(Hy u l.length l w Jf hu hw hc).mono fun e w' ⟨h1,h2,h3⟩=>(⟨h1,h2.tight,h3⟩:e=Ending.returned (.tuple #[])∧Wrote W0 b (l++qt).length (l++qt) w'∧KeepW w w'))
     clear htyT hcT Hy hqt hpeT J1 Jf htt
     subst Hd
     have He:bl=0:=by
      rcases hbg with h | h | h
      ·omega
      ·omega
      ·rw[←J8.o,h];rfl
     have Hn:el=0:=by
      rcases heg with h | h
      ·omega
      ·rw[←hel,h];rfl
     subst He Hn
     obtain⟨w4,hw4⟩:=zE (wr.alloc (.cells #[.int .i64 s.pos,.int .i64 1,.string ⟨s.name.toArray⟩,.slice (some ⟨gT,offT,none⟩) 1 ct,.slice (some ⟨gX,offX,none⟩) 1 cx,.slice Ab 0 cb,.slice Ae 0 ce] 69))
     have H3:=Live.first J3.o #[.int .i64 s.pos,.int .i64 1,.string ⟨s.name.toArray⟩,.slice (some ⟨gT,offT,none⟩) 1 ct,.slice (some ⟨gX,offX,none⟩) 1 cx,.slice Ab 0 cb,.slice Ae 0 ce] 69 hw4
     rw[hL]at H3
     have H4:=zh H3
     clear H3
     have Hc:Sx.stmt SY s=[[108,101,116],s.name]++qt++[[61]]++qx++[[59]]:=by
      rw[H1]
      simp[Jd]
     rw[Hc]at Ha H0
     simp only[List.length_append,List.length_cons,List.length_nil]at H0
     have Hm:=zh Ha
     have Hl:s.name≠[]∧s.name.length≤1000000000:=⟨NM.ok.small _ (hnm (.inl hkd1)),by omega⟩
     have Hp:=zh Hl
     have J5:(l++lm).length+2≤1000000000:=by simp;omega
     have Ji:(l++lm++[[108,101,116],s.name]++qt).length+1≤1000000000:=by simp;omega
     have Hi:(l++lm++[[108,101,116],s.name]++qt++[[61]]).length+qx.length≤900000000:=by simp;omega
     have Hk:(l++lm++[[108,101,116],s.name]++qt++[[61]]++qx).length+1≤1000000000:=by simp;omega
     have Jl:=zh (show Sx.typL (s.t.take 1)=qt by rw[List.take_of_length_le (by omega)];exact Jd)
     have Js:(l++lm++[[108,101,116],s.name]).length+10 * Sx.size tT≤1000000000:=by simp;omega
     clear Hl Ha Hc H1 hnm hbg heg hkd1 hk17 H0 Hx Hh hel Jd Jy Ho htr
     obtain⟨x0,x1,x2,x3,x4,x5,x6⟩:=zbZ H4.o.b1
     obtain⟨hl1,hl2,hbl⟩:=H4.o.lt
     obtain⟨dg,d0,d1,d2,d3,d4,d5,d6⟩:=H2.o w4 H4.o.wr.below
     rw[Nat.zero_mul,Nat.add_zero]at d0 d1 d2 d3 d4 d5 d6
     go_upto_region 5 with fail
     have J2:=zh H4.o.drew
     go_region_with (go_at_call 100;refine(J2.o.lput2 [108,101,116] s.name ⟨by simp,by simp⟩ Hp.o J5).mono ?_;rintro e w5 ⟨rfl,hW5,Hb⟩)
     have H5:=zh (J2.o.go oSt oSt hW5 Hb)
     clear hW5 Hb
     clear x0 x1 x2 x3 x4 x5 x6 hl1 hl2 hbl d0 d1 d2 d3 d4 d5 d6 dg
     obtain⟨x0,x1,x2,x3,x4,x5,x6⟩:=zbZ H5.o.b1
     obtain⟨hl1,hl2,hbl⟩:=H5.o.lt
     obtain⟨dg,d0,d1,d2,d3,d4,d5,d6⟩:=H2.o w5 H5.o.wr.below
     rw[Nat.zero_mul,Nat.add_zero]at d0 d1 d2 d3 d4 d5 d6
     go_wp2_with fail
     clear x0 x1 x2 x3 x4 x5 x6 hl1 hl2 hbl d0 d1 d2 d3 d4 d5 d6 dg
     have Jb:=zh (show Live W0 b (l++lm++[[108,101,116],s.name]++Sx.typL (s.t.take 0)) wr w5 L #[.int .i64 s.pos,.int .i64 1,.string ⟨s.name.toArray⟩,.slice (some ⟨gT,offT,none⟩) 1 ct,.slice (some ⟨gX,offX,none⟩) 1 cx,.slice Ab 0 cb,.slice Ae 0 ce] 69 L #[.int .i64 s.pos,.int .i64 1,.string ⟨s.name.toArray⟩,.slice (some ⟨gT,offT,none⟩) 1 ct,.slice (some ⟨gX,offX,none⟩) 1 cx,.slice Ab 0 cb,.slice Ae 0 ce] 69 by simpa[Sx.typL]using H5.o)
     obtain⟨wo,hwo⟩:∃wo:World,wo=wr:=⟨_,rfl⟩
     rw[←hwo]at Jb
     have Hw:=zh hwo
     clear hwo
     go_loopg [28] 1 (fun i v wx=>∃(j:Nat),i=1-j∧v=.int .i64 (j:Int)∧j≤1∧Live W0 b (l++lm++[[108,101,116],s.name]++Sx.typL (s.t.take j)) wo wx L #[.int .i64 s.pos,.int .i64 1,.string ⟨s.name.toArray⟩,.slice (some ⟨gT,offT,none⟩) 1 ct,.slice (some ⟨gX,offX,none⟩) 1 cx,.slice Ab 0 cb,.slice Ae 0 ce] 69 L #[.int .i64 s.pos,.int .i64 1,.string ⟨s.name.toArray⟩,.slice (some ⟨gT,offT,none⟩) 1 ct,.slice (some ⟨gX,offX,none⟩) 1 cx,.slice Ab 0 cb,.slice Ae 0 ce] 69)
     case atStart=>exact⟨0,rfl,rfl,Nat.zero_le _,Jb.o⟩
     case round=>
      obtain⟨j,hij,rfl,hj,hlive⟩:=hrel
      have Jn:=zh hij
      have J7:=zh hlive
      clear hij hlive
      by_cases hj0:j=0
      ·subst hj0
       have H7:=zh (show Live W0 b (l++lm++[[108,101,116],s.name]) wo wr L #[.int .i64 s.pos,.int .i64 1,.string ⟨s.name.toArray⟩,.slice (some ⟨gT,offT,none⟩) 1 ct,.slice (some ⟨gX,offX,none⟩) 1 cx,.slice Ab 0 cb,.slice Ae 0 ce] 69 L #[.int .i64 s.pos,.int .i64 1,.string ⟨s.name.toArray⟩,.slice (some ⟨gT,offT,none⟩) 1 ct,.slice (some ⟨gX,offX,none⟩) 1 cx,.slice Ab 0 cb,.slice Ae 0 ce] 69 by simpa[Sx.typL]using J7.o)
       obtain⟨tg,t0,t1,t2,t3,t4⟩:=Jp.o wr H7.o.wr.below
       rw[Nat.zero_mul,Nat.add_zero]at t0 t1 t2 t3 t4
       have U7:=H7.o.lt
       obtain⟨w8,hw8⟩:=zE (wr.alloc (.cells #[.int .i64 tT.kind,.string ⟨tT.name.toArray⟩,.slice AnT tT.names.length cnT,.slice AeT tT.embeds.length ceT,.slice AqT tT.parts.length cqT] 26))
       have H8:=zh (show Live W0 b (l++lm++[[108,101,116],s.name]) wo w8 L #[.int .i64 s.pos,.int .i64 1,.string ⟨s.name.toArray⟩,.slice (some ⟨gT,offT,none⟩) 1 ct,.slice (some ⟨gX,offX,none⟩) 1 cx,.slice Ab 0 cb,.slice Ae 0 ce] 69 L #[.int .i64 s.pos,.int .i64 1,.string ⟨s.name.toArray⟩,.slice (some ⟨gT,offT,none⟩) 1 ct,.slice (some ⟨gX,offX,none⟩) 1 cx,.slice Ab 0 cb,.slice Ae 0 ce] 69 by rw[←hw8];exact H7.o.grow (World.grownBy_alloc wr _ none))
       have Hs:w8.heap[wr.heap.size]? =some (.cells #[.int .i64 tT.kind,.string ⟨tT.name.toArray⟩,.slice AnT tT.names.length cnT,.slice AeT tT.embeds.length ceT,.slice AqT tT.parts.length cqT] 26 (0,0)):=by rw[←hw8];exact heap_alloc_new wr _
       obtain⟨z0,z1,z2,z3,z4⟩:=zcZ Hs
       have U1:=H8.o.lt
       have U6:=zaZ Hs
       clear Hs
       go_wp2_with (go_at_call 59;refine(Jz.o _ _ w8 Jh.o H8.o.wr Js).mono ?_;rintro e w9 ⟨rfl,hW9,Ht⟩)
       have H9:=zh (H8.o.go oSt oSt hW9 Ht)
       clear hW9 Ht t0 t1 t2 t3 t4 tg z0 z1 z2 z3 z4 U1 U6 U7
       go_roundg (1-1)
       case measure=>have:=Jn.o;omega
       case rel=>exact⟨1,rfl,rfl,Nat.le_refl _,by rw[Jl.o];exact H9.o⟩
      ·obtain rfl:j=1:=by omega
       have H7:=zh (show Live W0 b (l++lm++[[108,101,116],s.name]++qt) wo wr L #[.int .i64 s.pos,.int .i64 1,.string ⟨s.name.toArray⟩,.slice (some ⟨gT,offT,none⟩) 1 ct,.slice (some ⟨gX,offX,none⟩) 1 cx,.slice Ab 0 cb,.slice Ae 0 ce] 69 L #[.int .i64 s.pos,.int .i64 1,.string ⟨s.name.toArray⟩,.slice (some ⟨gT,offT,none⟩) 1 ct,.slice (some ⟨gX,offX,none⟩) 1 cx,.slice Ab 0 cb,.slice Ae 0 ce] 69 by have h:=J7.o;rwa [Jl.o]at h)
       clear J7
       obtain⟨w7,hw7⟩:=zE (wr)
       rw[hw7]at H7 ⊢
       clear hw7
       obtain⟨x0,x1,x2,x3,x4,x5,x6⟩:=zbZ H7.o.b1
       obtain⟨hl1,hl2,hbl⟩:=H7.o.lt
       obtain⟨dg,d0,d1,d2,d3,d4,d5,d6⟩:=H2.o w7 H7.o.wr.below
       rw[Nat.zero_mul,Nat.add_zero]at d0 d1 d2 d3 d4 d5 d6
       go_upto_region 22 with(go_at_call 100;refine(H7.o.lput1 [61] ⟨by simp,by simp⟩ Ji).mono ?_;rintro e w8 ⟨rfl,hW8,J4⟩)
       have H8:=zh (H7.o.go oSt oSt hW8 J4)
       clear hW8 J4
       clear x0 x1 x2 x3 x4 x5 x6 hl1 hl2 hbl d0 d1 d2 d3 d4 d5 d6 dg
       obtain⟨x0,x1,x2,x3,x4,x5,x6⟩:=zbZ H8.o.b1
       obtain⟨hl1,hl2,hbl⟩:=H8.o.lt
       obtain⟨dg,d0,d1,d2,d3,d4,d5,d6⟩:=H2.o w8 H8.o.wr.below
       rw[Nat.zero_mul,Nat.add_zero]at d0 d1 d2 d3 d4 d5 d6
       go_upto_region 24 with(go_at_call 64;refine(Hz.o _ _ w8 Hg.o H8.o.wr Hi).mono ?_;rintro e w9 ⟨rfl,hW9,Ht⟩)
       have H9:=zh (H8.o.go oSt oSt hW9 Ht)
       clear hW9 Ht
       clear x0 x1 x2 x3 x4 x5 x6 hl1 hl2 hbl d0 d1 d2 d3 d4 d5 d6 dg
       obtain⟨x0,x1,x2,x3,x4,x5,x6⟩:=zbZ H9.o.b1
       obtain⟨hl1,hl2,hbl⟩:=H9.o.lt
       obtain⟨dg,d0,d1,d2,d3,d4,d5,d6⟩:=H2.o w9 H9.o.wr.below
       rw[Nat.zero_mul,Nat.add_zero]at d0 d1 d2 d3 d4 d5 d6
       go_wp2_with (go_at_call 100;refine(H9.o.lput1 [59] ⟨by simp,by simp⟩ Hk).mono ?_;rintro e w10 ⟨rfl,hW10,Hr⟩)
       have Ja:=zh (H9.o.go oSt oSt hW10 Hr)
       clear hW10 Hr
       clear x0 x1 x2 x3 x4 x5 x6 hl1 hl2 hbl d0 d1 d2 d3 d4 d5 d6 dg
       go_roundg (k-(m+1))
       case measure=>have:=HI.o;omega
       case rel=>
        refine⟨m+1,rfl,by simp,hlt,?_,Hv.o.trans (by have h:=Ja.o.kp;first | exact h | (rw[Hw.o]at h;exact h))⟩
        rw[Hm.o]
        simpa[List.append_assoc]using Ja.o.wr
   by_cases hkd2:s.kind=2
   ·rw[hkd2]at c1 H1
    have Hd:tl=0:=by
     rcases Hd with h | ⟨h,-⟩
     ·exact h
     ·omega
    subst Hd
    have He:bl=0:=by
     rcases hbg with h | h | h
     ·omega
     ·omega
     ·rw[←J8.o,h];rfl
    have Hn:el=0:=by
     rcases heg with h | h
     ·omega
     ·rw[←hel,h];rfl
    subst He Hn
    obtain⟨w4,hw4⟩:=zE (wr.alloc (.cells #[.int .i64 s.pos,.int .i64 2,.string ⟨s.name.toArray⟩,.slice At 0 ct,.slice (some ⟨gX,offX,none⟩) 1 cx,.slice Ab 0 cb,.slice Ae 0 ce] 69))
    have H3:=Live.first J3.o #[.int .i64 s.pos,.int .i64 2,.string ⟨s.name.toArray⟩,.slice At 0 ct,.slice (some ⟨gX,offX,none⟩) 1 cx,.slice Ab 0 cb,.slice Ae 0 ce] 69 hw4
    rw[hL]at H3
    have H4:=zh H3
    clear H3
    have Hc:Sx.stmt SY s=[s.name,[61]]++qx++[[59]]:=by
     rw[H1]
     simp
    rw[Hc]at Ha H0
    simp only[List.length_append,List.length_cons,List.length_nil]at H0
    have Hm:=zh Ha
    have Hl:s.name≠[]∧s.name.length≤1000000000:=⟨NM.ok.small _ (hnm (.inr hkd2)),by omega⟩
    have Hp:=zh Hl
    have J5:(l++lm).length+2≤1000000000:=by simp;omega
    have He:(l++lm).length+1≤1000000000:=by simp;omega
    have Hi:(l++lm++[s.name,[61]]).length+qx.length≤900000000:=by simp;omega
    have Hk:(l++lm++[s.name,[61]]++qx).length+1≤1000000000:=by simp;omega
    clear Ha Hc H1 hnm hbg heg hkd2 hk17 H0 Hx Hh hel htt Hl
    obtain⟨x0,x1,x2,x3,x4,x5,x6⟩:=zbZ H4.o.b1
    obtain⟨hl1,hl2,hbl⟩:=H4.o.lt
    obtain⟨dg,d0,d1,d2,d3,d4,d5,d6⟩:=H2.o w4 H4.o.wr.below
    rw[Nat.zero_mul,Nat.add_zero]at d0 d1 d2 d3 d4 d5 d6
    go_upto_region 13 with fail
    have J2:=zh H4.o.drew
    go_region_with (go_at_call 100;refine(J2.o.lput2 s.name [61] Hp.o ⟨by simp,by simp⟩ J5).mono ?_;rintro e w5 ⟨rfl,hW5,Hb⟩)
    have H5:=zh (J2.o.go oSt oSt hW5 Hb)
    clear hW5 Hb
    clear x0 x1 x2 x3 x4 x5 x6 hl1 hl2 hbl d0 d1 d2 d3 d4 d5 d6 dg
    obtain⟨x0,x1,x2,x3,x4,x5,x6⟩:=zbZ H5.o.b1
    obtain⟨hl1,hl2,hbl⟩:=H5.o.lt
    obtain⟨dg,d0,d1,d2,d3,d4,d5,d6⟩:=H2.o w5 H5.o.wr.below
    rw[Nat.zero_mul,Nat.add_zero]at d0 d1 d2 d3 d4 d5 d6
    go_upto_region 24 with(go_at_call 64;refine(Hz.o _ _ w5 Hg.o H5.o.wr Hi).mono ?_;rintro e w6 ⟨rfl,hW6,Hf⟩)
    have H6:=zh (H5.o.go oSt oSt hW6 Hf)
    clear hW6 Hf
    clear x0 x1 x2 x3 x4 x5 x6 hl1 hl2 hbl d0 d1 d2 d3 d4 d5 d6 dg
    obtain⟨x0,x1,x2,x3,x4,x5,x6⟩:=zbZ H6.o.b1
    obtain⟨hl1,hl2,hbl⟩:=H6.o.lt
    obtain⟨dg,d0,d1,d2,d3,d4,d5,d6⟩:=H2.o w6 H6.o.wr.below
    rw[Nat.zero_mul,Nat.add_zero]at d0 d1 d2 d3 d4 d5 d6
    go_wp2_with (go_at_call 100;refine(H6.o.lput1 [59] ⟨by simp,by simp⟩ Hk).mono ?_;rintro e w7 ⟨rfl,hW7,Hj⟩)
    have H7:=zh (H6.o.go oSt oSt hW7 Hj)
    clear hW7 Hj
    clear x0 x1 x2 x3 x4 x5 x6 hl1 hl2 hbl d0 d1 d2 d3 d4 d5 d6 dg
    go_roundg (k-(m+1))
    case measure=>have:=HI.o;omega
    case rel=>
     refine⟨m+1,rfl,by simp,hlt,?_,Hv.o.trans (by have h:=H7.o.kp;first | exact h | (rw[Hw.o]at h;exact h))⟩
     rw[Hm.o]
     simpa[List.append_assoc]using H7.o.wr
   by_cases hkd3:s.kind=3
   ·rw[hkd3]at c1 H1
    have Hd:tl=0:=by
     rcases Hd with h | ⟨h,-⟩
     ·exact h
     ·omega
    subst Hd
    have He:bl=0:=by
     rcases hbg with h | h | h
     ·omega
     ·omega
     ·rw[←J8.o,h];rfl
    have Hn:el=0:=by
     rcases heg with h | h
     ·omega
     ·rw[←hel,h];rfl
    subst He Hn
    obtain⟨w4,hw4⟩:=zE (wr.alloc (.cells #[.int .i64 s.pos,.int .i64 3,.string ⟨s.name.toArray⟩,.slice At 0 ct,.slice (some ⟨gX,offX,none⟩) 1 cx,.slice Ab 0 cb,.slice Ae 0 ce] 69))
    have H3:=Live.first J3.o #[.int .i64 s.pos,.int .i64 3,.string ⟨s.name.toArray⟩,.slice At 0 ct,.slice (some ⟨gX,offX,none⟩) 1 cx,.slice Ab 0 cb,.slice Ae 0 ce] 69 hw4
    rw[hL]at H3
    have H4:=zh H3
    clear H3
    have Hc:Sx.stmt SY s=[[112,114,105,110,116]]++qx++[[59]]:=by
     rw[H1]
     simp
    rw[Hc]at Ha H0
    simp only[List.length_append,List.length_cons,List.length_nil]at H0
    have Hm:=zh Ha
    have J5:(l++lm).length+2≤1000000000:=by simp;omega
    have He:(l++lm).length+1≤1000000000:=by simp;omega
    have Hi:(l++lm++[[112,114,105,110,116]]).length+qx.length≤900000000:=by simp;omega
    have Hk:(l++lm++[[112,114,105,110,116]]++qx).length+1≤1000000000:=by simp;omega
    clear Ha Hc H1 hnm hbg heg hkd3 hk17 H0 Hx Hh hel htt
    obtain⟨x0,x1,x2,x3,x4,x5,x6⟩:=zbZ H4.o.b1
    obtain⟨hl1,hl2,hbl⟩:=H4.o.lt
    obtain⟨dg,d0,d1,d2,d3,d4,d5,d6⟩:=H2.o w4 H4.o.wr.below
    rw[Nat.zero_mul,Nat.add_zero]at d0 d1 d2 d3 d4 d5 d6
    go_upto_region 22 with(go_at_call 100;refine(H4.o.lput1 [112,114,105,110,116] ⟨by simp,by simp⟩ He).mono ?_;rintro e w5 ⟨rfl,hW5,Hb⟩)
    have H5:=zh (H4.o.go oSt oSt hW5 Hb)
    clear hW5 Hb
    clear x0 x1 x2 x3 x4 x5 x6 hl1 hl2 hbl d0 d1 d2 d3 d4 d5 d6 dg
    obtain⟨x0,x1,x2,x3,x4,x5,x6⟩:=zbZ H5.o.b1
    obtain⟨hl1,hl2,hbl⟩:=H5.o.lt
    obtain⟨dg,d0,d1,d2,d3,d4,d5,d6⟩:=H2.o w5 H5.o.wr.below
    rw[Nat.zero_mul,Nat.add_zero]at d0 d1 d2 d3 d4 d5 d6
    go_upto_region 24 with(go_at_call 64;refine(Hz.o _ _ w5 Hg.o H5.o.wr Hi).mono ?_;rintro e w6 ⟨rfl,hW6,Hf⟩)
    have H6:=zh (H5.o.go oSt oSt hW6 Hf)
    clear hW6 Hf
    clear x0 x1 x2 x3 x4 x5 x6 hl1 hl2 hbl d0 d1 d2 d3 d4 d5 d6 dg
    obtain⟨x0,x1,x2,x3,x4,x5,x6⟩:=zbZ H6.o.b1
    obtain⟨hl1,hl2,hbl⟩:=H6.o.lt
    obtain⟨dg,d0,d1,d2,d3,d4,d5,d6⟩:=H2.o w6 H6.o.wr.below
    rw[Nat.zero_mul,Nat.add_zero]at d0 d1 d2 d3 d4 d5 d6
    go_wp2_with (go_at_call 100;refine(H6.o.lput1 [59] ⟨by simp,by simp⟩ Hk).mono ?_;rintro e w7 ⟨rfl,hW7,Hj⟩)
    have H7:=zh (H6.o.go oSt oSt hW7 Hj)
    clear hW7 Hj
    clear x0 x1 x2 x3 x4 x5 x6 hl1 hl2 hbl d0 d1 d2 d3 d4 d5 d6 dg
    go_roundg (k-(m+1))
    case measure=>have:=HI.o;omega
    case rel=>
     refine⟨m+1,rfl,by simp,hlt,?_,Hv.o.trans (by have h:=H7.o.kp;first | exact h | (rw[Hw.o]at h;exact h))⟩
     rw[Hm.o]
     simpa[List.append_assoc]using H7.o.wr
   by_cases hkd4:s.kind=4
   ·rw[hkd4]at c1 H1
    have Hd:tl=0:=by
     rcases Hd with h | ⟨h,-⟩
     ·exact h
     ·omega
    subst Hd
    obtain⟨w4,hw4⟩:=zE (wr.alloc (.cells #[.int .i64 s.pos,.int .i64 4,.string ⟨s.name.toArray⟩,.slice At 0 ct,.slice (some ⟨gX,offX,none⟩) 1 cx,.slice Ab bl cb,.slice Ae el ce] 69))
    have H3:=Live.first J3.o #[.int .i64 s.pos,.int .i64 4,.string ⟨s.name.toArray⟩,.slice At 0 ct,.slice (some ⟨gX,offX,none⟩) 1 cx,.slice Ab bl cb,.slice Ae el ce] 69 hw4
    rw[hL]at H3
    have H4:=zh H3
    clear H3
    rcases Nat.eq_zero_or_pos el with hze | hze
    ·skip
     have J0:s.els.isEmpty=true:=by rw[List.isEmpty_iff];exact List.length_eq_zero_iff.1 (hel.trans hze)
     subst hze
     have Hc:Sx.stmt SY s=[[105,102]]++qx++qb:=by
      rw[H1]
      simp[J0]
     rw[Hc]at Ha H0
     simp only[List.length_append,List.length_cons,List.length_nil]at H0
     have Hm:=zh Ha
     have He:(l++lm).length+1≤1000000000:=by simp;omega
     have Hi:(l++lm++[[105,102]]).length+qx.length≤900000000:=by simp;omega
     have Hk:(l++lm++[[105,102]]++qx).length+qb.length≤900000000:=by simp;omega
     clear Ha Hc H1 hnm hbg heg hkd4 hk17 H0 Hx Hh hel htt J0
     obtain⟨x0,x1,x2,x3,x4,x5,x6⟩:=zbZ H4.o.b1
     obtain⟨hl1,hl2,hbl⟩:=H4.o.lt
     obtain⟨dg,d0,d1,d2,d3,d4,d5,d6⟩:=H2.o w4 H4.o.wr.below
     rw[Nat.zero_mul,Nat.add_zero]at d0 d1 d2 d3 d4 d5 d6
     go_upto_region 22 with(go_at_call 100;refine(H4.o.lput1 [105,102] ⟨by simp,by simp⟩ He).mono ?_;rintro e w5 ⟨rfl,hW5,Hb⟩)
     have H5:=zh (H4.o.go oSt oSt hW5 Hb)
     clear hW5 Hb
     clear x0 x1 x2 x3 x4 x5 x6 hl1 hl2 hbl d0 d1 d2 d3 d4 d5 d6 dg
     obtain⟨x0,x1,x2,x3,x4,x5,x6⟩:=zbZ H5.o.b1
     obtain⟨hl1,hl2,hbl⟩:=H5.o.lt
     obtain⟨dg,d0,d1,d2,d3,d4,d5,d6⟩:=H2.o w5 H5.o.wr.below
     rw[Nat.zero_mul,Nat.add_zero]at d0 d1 d2 d3 d4 d5 d6
     go_upto_region 24 with(go_at_call 64;refine(Hz.o _ _ w5 Hg.o H5.o.wr Hi).mono ?_;rintro e w6 ⟨rfl,hW6,Hf⟩)
     have H6:=zh (H5.o.go oSt oSt hW6 Hf)
     clear hW6 Hf
     clear x0 x1 x2 x3 x4 x5 x6 hl1 hl2 hbl d0 d1 d2 d3 d4 d5 d6 dg
     obtain⟨x0,x1,x2,x3,x4,x5,x6⟩:=zbZ H6.o.b1
     obtain⟨hl1,hl2,hbl⟩:=H6.o.lt
     obtain⟨dg,d0,d1,d2,d3,d4,d5,d6⟩:=H2.o w6 H6.o.wr.below
     rw[Nat.zero_mul,Nat.add_zero]at d0 d1 d2 d3 d4 d5 d6
     go_wp2_with (go_at_call 121;refine(Jj.o _ w6 H6.o.wr Hk).mono ?_;rintro e w7 ⟨rfl,hW7,Hj⟩)
     have H7:=zh (H6.o.go oSt oSt hW7 Hj)
     clear hW7 Hj
     clear x0 x1 x2 x3 x4 x5 x6 hl1 hl2 hbl d0 d1 d2 d3 d4 d5 d6 dg
     go_roundg (k-(m+1))
     case measure=>have:=HI.o;omega
     case rel=>
      refine⟨m+1,rfl,by simp,hlt,?_,Hv.o.trans (by have h:=H7.o.kp;first | exact h | (rw[Hw.o]at h;exact h))⟩
      rw[Hm.o]
      simpa[List.append_assoc]using H7.o.wr
    ·skip
     have U8:(0:Int)<(el:Int):=by omega
     have J0:s.els.isEmpty=false:=by cases hx:s.els with
      | nil=>rw[hx]at hel;simp at hel;omega
      | cons a l=>rfl
     have Hc:Sx.stmt SY s=[[105,102]]++qx++qb++[[101,108,115,101]]++qe:=by
      rw[H1]
      simp[J0]
     rw[Hc]at Ha H0
     simp only[List.length_append,List.length_cons,List.length_nil]at H0
     have Hm:=zh Ha
     have He:(l++lm).length+1≤1000000000:=by simp;omega
     have Hi:(l++lm++[[105,102]]).length+qx.length≤900000000:=by simp;omega
     have Hk:(l++lm++[[105,102]]++qx).length+qb.length≤900000000:=by simp;omega
     have Ju:(l++lm++[[105,102]]++qx++qb).length+1≤1000000000:=by simp;omega
     have Jx:(l++lm++[[105,102]]++qx++qb++[[101,108,115,101]]).length+qe.length≤900000000:=by simp;omega
     clear Ha Hc H1 hnm hbg heg hkd4 hk17 H0 Hx Hh hel htt J0
     obtain⟨x0,x1,x2,x3,x4,x5,x6⟩:=zbZ H4.o.b1
     obtain⟨hl1,hl2,hbl⟩:=H4.o.lt
     obtain⟨dg,d0,d1,d2,d3,d4,d5,d6⟩:=H2.o w4 H4.o.wr.below
     rw[Nat.zero_mul,Nat.add_zero]at d0 d1 d2 d3 d4 d5 d6
     go_upto_region 22 with(go_at_call 100;refine(H4.o.lput1 [105,102] ⟨by simp,by simp⟩ He).mono ?_;rintro e w5 ⟨rfl,hW5,Hb⟩)
     have H5:=zh (H4.o.go oSt oSt hW5 Hb)
     clear hW5 Hb
     clear x0 x1 x2 x3 x4 x5 x6 hl1 hl2 hbl d0 d1 d2 d3 d4 d5 d6 dg
     obtain⟨x0,x1,x2,x3,x4,x5,x6⟩:=zbZ H5.o.b1
     obtain⟨hl1,hl2,hbl⟩:=H5.o.lt
     obtain⟨dg,d0,d1,d2,d3,d4,d5,d6⟩:=H2.o w5 H5.o.wr.below
     rw[Nat.zero_mul,Nat.add_zero]at d0 d1 d2 d3 d4 d5 d6
     go_upto_region 24 with(go_at_call 64;refine(Hz.o _ _ w5 Hg.o H5.o.wr Hi).mono ?_;rintro e w6 ⟨rfl,hW6,Hf⟩)
     have H6:=zh (H5.o.go oSt oSt hW6 Hf)
     clear hW6 Hf
     clear x0 x1 x2 x3 x4 x5 x6 hl1 hl2 hbl d0 d1 d2 d3 d4 d5 d6 dg
     obtain⟨x0,x1,x2,x3,x4,x5,x6⟩:=zbZ H6.o.b1
     obtain⟨hl1,hl2,hbl⟩:=H6.o.lt
     obtain⟨dg,d0,d1,d2,d3,d4,d5,d6⟩:=H2.o w6 H6.o.wr.below
     rw[Nat.zero_mul,Nat.add_zero]at d0 d1 d2 d3 d4 d5 d6
     go_upto_region 28 with(go_at_call 121;refine(Jj.o _ w6 H6.o.wr Hk).mono ?_;rintro e w7 ⟨rfl,hW7,Hj⟩)
     have H7:=zh (H6.o.go oSt oSt hW7 Hj)
     clear hW7 Hj
     clear x0 x1 x2 x3 x4 x5 x6 hl1 hl2 hbl d0 d1 d2 d3 d4 d5 d6 dg
     obtain⟨x0,x1,x2,x3,x4,x5,x6⟩:=zbZ H7.o.b1
     obtain⟨hl1,hl2,hbl⟩:=H7.o.lt
     obtain⟨dg,d0,d1,d2,d3,d4,d5,d6⟩:=H2.o w7 H7.o.wr.below
     rw[Nat.zero_mul,Nat.add_zero]at d0 d1 d2 d3 d4 d5 d6
     go_upto_region 29 with(go_at_call 100;refine(H7.o.lput1 [101,108,115,101] ⟨by simp,by simp⟩ Ju).mono ?_;rintro e w8 ⟨rfl,hW8,J4⟩)
     have H8:=zh (H7.o.go oSt oSt hW8 J4)
     clear hW8 J4
     clear x0 x1 x2 x3 x4 x5 x6 hl1 hl2 hbl d0 d1 d2 d3 d4 d5 d6 dg
     obtain⟨x0,x1,x2,x3,x4,x5,x6⟩:=zbZ H8.o.b1
     obtain⟨hl1,hl2,hbl⟩:=H8.o.lt
     obtain⟨dg,d0,d1,d2,d3,d4,d5,d6⟩:=H2.o w8 H8.o.wr.below
     rw[Nat.zero_mul,Nat.add_zero]at d0 d1 d2 d3 d4 d5 d6
     go_wp2_with (go_at_call 121;refine(Jo.o _ w8 H8.o.wr Jx).mono ?_;rintro e w9 ⟨rfl,hW9,Ht⟩)
     have H9:=zh (H8.o.go oSt oSt hW9 Ht)
     clear hW9 Ht
     clear x0 x1 x2 x3 x4 x5 x6 hl1 hl2 hbl d0 d1 d2 d3 d4 d5 d6 dg
     go_roundg (k-(m+1))
     case measure=>have:=HI.o;omega
     case rel=>
      refine⟨m+1,rfl,by simp,hlt,?_,Hv.o.trans (by have h:=H9.o.kp;first | exact h | (rw[Hw.o]at h;exact h))⟩
      rw[Hm.o]
      simpa[List.append_assoc]using H9.o.wr
   by_cases hkd5:s.kind=5
   ·rw[hkd5]at c1 H1
    have Hd:tl=0:=by
     rcases Hd with h | ⟨h,-⟩
     ·exact h
     ·omega
    subst Hd
    have Hn:el=0:=by
     rcases heg with h | h
     ·omega
     ·rw[←hel,h];rfl
    have J0:s.els.isEmpty=true:=by rw[List.isEmpty_iff];exact List.length_eq_zero_iff.1 (hel.trans Hn)
    subst Hn
    obtain⟨w4,hw4⟩:=zE (wr.alloc (.cells #[.int .i64 s.pos,.int .i64 5,.string ⟨s.name.toArray⟩,.slice At 0 ct,.slice (some ⟨gX,offX,none⟩) 1 cx,.slice Ab bl cb,.slice Ae 0 ce] 69))
    have H3:=Live.first J3.o #[.int .i64 s.pos,.int .i64 5,.string ⟨s.name.toArray⟩,.slice At 0 ct,.slice (some ⟨gX,offX,none⟩) 1 cx,.slice Ab bl cb,.slice Ae 0 ce] 69 hw4
    rw[hL]at H3
    have H4:=zh H3
    clear H3
    have Hc:Sx.stmt SY s=[[119,104,105,108,101]]++qx++qb:=by
     rw[H1]
     simp[J0]
    rw[Hc]at Ha H0
    simp only[List.length_append,List.length_cons,List.length_nil]at H0
    have Hm:=zh Ha
    have He:(l++lm).length+1≤1000000000:=by simp;omega
    have Hi:(l++lm++[[119,104,105,108,101]]).length+qx.length≤900000000:=by simp;omega
    have Hk:(l++lm++[[119,104,105,108,101]]++qx).length+qb.length≤900000000:=by simp;omega
    clear Ha Hc H1 hnm hbg heg hkd5 hk17 H0 Hx Hh hel htt J0
    obtain⟨x0,x1,x2,x3,x4,x5,x6⟩:=zbZ H4.o.b1
    obtain⟨hl1,hl2,hbl⟩:=H4.o.lt
    obtain⟨dg,d0,d1,d2,d3,d4,d5,d6⟩:=H2.o w4 H4.o.wr.below
    rw[Nat.zero_mul,Nat.add_zero]at d0 d1 d2 d3 d4 d5 d6
    go_upto_region 22 with(go_at_call 100;refine(H4.o.lput1 [119,104,105,108,101] ⟨by simp,by simp⟩ He).mono ?_;rintro e w5 ⟨rfl,hW5,Hb⟩)
    have H5:=zh (H4.o.go oSt oSt hW5 Hb)
    clear hW5 Hb
    clear x0 x1 x2 x3 x4 x5 x6 hl1 hl2 hbl d0 d1 d2 d3 d4 d5 d6 dg
    obtain⟨x0,x1,x2,x3,x4,x5,x6⟩:=zbZ H5.o.b1
    obtain⟨hl1,hl2,hbl⟩:=H5.o.lt
    obtain⟨dg,d0,d1,d2,d3,d4,d5,d6⟩:=H2.o w5 H5.o.wr.below
    rw[Nat.zero_mul,Nat.add_zero]at d0 d1 d2 d3 d4 d5 d6
    go_upto_region 24 with(go_at_call 64;refine(Hz.o _ _ w5 Hg.o H5.o.wr Hi).mono ?_;rintro e w6 ⟨rfl,hW6,Hf⟩)
    have H6:=zh (H5.o.go oSt oSt hW6 Hf)
    clear hW6 Hf
    clear x0 x1 x2 x3 x4 x5 x6 hl1 hl2 hbl d0 d1 d2 d3 d4 d5 d6 dg
    obtain⟨x0,x1,x2,x3,x4,x5,x6⟩:=zbZ H6.o.b1
    obtain⟨hl1,hl2,hbl⟩:=H6.o.lt
    obtain⟨dg,d0,d1,d2,d3,d4,d5,d6⟩:=H2.o w6 H6.o.wr.below
    rw[Nat.zero_mul,Nat.add_zero]at d0 d1 d2 d3 d4 d5 d6
    go_wp2_with (go_at_call 121;refine(Jj.o _ w6 H6.o.wr Hk).mono ?_;rintro e w7 ⟨rfl,hW7,Hj⟩)
    have H7:=zh (H6.o.go oSt oSt hW7 Hj)
    clear hW7 Hj
    clear x0 x1 x2 x3 x4 x5 x6 hl1 hl2 hbl d0 d1 d2 d3 d4 d5 d6 dg
    go_roundg (k-(m+1))
    case measure=>have:=HI.o;omega
    case rel=>
     refine⟨m+1,rfl,by simp,hlt,?_,Hv.o.trans (by have h:=H7.o.kp;first | exact h | (rw[Hw.o]at h;exact h))⟩
     rw[Hm.o]
     simpa[List.append_assoc]using H7.o.wr
   by_cases hkd6:s.kind=6
   ·rw[hkd6]at c1 H1
    have Hd:tl=0:=by
     rcases Hd with h | ⟨h,-⟩
     ·exact h
     ·omega
    subst Hd
    have He:bl=0:=by
     rcases hbg with h | h | h
     ·omega
     ·omega
     ·rw[←J8.o,h];rfl
    have Hn:el=0:=by
     rcases heg with h | h
     ·omega
     ·rw[←hel,h];rfl
    subst He Hn
    obtain⟨w4,hw4⟩:=zE (wr.alloc (.cells #[.int .i64 s.pos,.int .i64 6,.string ⟨s.name.toArray⟩,.slice At 0 ct,.slice (some ⟨gX,offX,none⟩) 1 cx,.slice Ab 0 cb,.slice Ae 0 ce] 69))
    have H3:=Live.first J3.o #[.int .i64 s.pos,.int .i64 6,.string ⟨s.name.toArray⟩,.slice At 0 ct,.slice (some ⟨gX,offX,none⟩) 1 cx,.slice Ab 0 cb,.slice Ae 0 ce] 69 hw4
    rw[hL]at H3
    have H4:=zh H3
    clear H3
    have Hc:Sx.stmt SY s=[[114,101,116,117,114,110]]++qx++[[59]]:=by
     rw[H1]
     simp
    rw[Hc]at Ha H0
    simp only[List.length_append,List.length_cons,List.length_nil]at H0
    have Hm:=zh Ha
    have J5:(l++lm).length+2≤1000000000:=by simp;omega
    have He:(l++lm).length+1≤1000000000:=by simp;omega
    have Hi:(l++lm++[[114,101,116,117,114,110]]).length+qx.length≤900000000:=by simp;omega
    have Hk:(l++lm++[[114,101,116,117,114,110]]++qx).length+1≤1000000000:=by simp;omega
    clear Ha Hc H1 hnm hbg heg hkd6 hk17 H0 Hx Hh hel htt
    obtain⟨x0,x1,x2,x3,x4,x5,x6⟩:=zbZ H4.o.b1
    obtain⟨hl1,hl2,hbl⟩:=H4.o.lt
    obtain⟨dg,d0,d1,d2,d3,d4,d5,d6⟩:=H2.o w4 H4.o.wr.below
    rw[Nat.zero_mul,Nat.add_zero]at d0 d1 d2 d3 d4 d5 d6
    go_upto_region 22 with(go_at_call 100;refine(H4.o.lput1 [114,101,116,117,114,110] ⟨by simp,by simp⟩ He).mono ?_;rintro e w5 ⟨rfl,hW5,Hb⟩)
    have H5:=zh (H4.o.go oSt oSt hW5 Hb)
    clear hW5 Hb
    clear x0 x1 x2 x3 x4 x5 x6 hl1 hl2 hbl d0 d1 d2 d3 d4 d5 d6 dg
    obtain⟨x0,x1,x2,x3,x4,x5,x6⟩:=zbZ H5.o.b1
    obtain⟨hl1,hl2,hbl⟩:=H5.o.lt
    obtain⟨dg,d0,d1,d2,d3,d4,d5,d6⟩:=H2.o w5 H5.o.wr.below
    rw[Nat.zero_mul,Nat.add_zero]at d0 d1 d2 d3 d4 d5 d6
    go_upto_region 24 with(go_at_call 64;refine(Hz.o _ _ w5 Hg.o H5.o.wr Hi).mono ?_;rintro e w6 ⟨rfl,hW6,Hf⟩)
    have H6:=zh (H5.o.go oSt oSt hW6 Hf)
    clear hW6 Hf
    clear x0 x1 x2 x3 x4 x5 x6 hl1 hl2 hbl d0 d1 d2 d3 d4 d5 d6 dg
    obtain⟨x0,x1,x2,x3,x4,x5,x6⟩:=zbZ H6.o.b1
    obtain⟨hl1,hl2,hbl⟩:=H6.o.lt
    obtain⟨dg,d0,d1,d2,d3,d4,d5,d6⟩:=H2.o w6 H6.o.wr.below
    rw[Nat.zero_mul,Nat.add_zero]at d0 d1 d2 d3 d4 d5 d6
    go_wp2_with (go_at_call 100;refine(H6.o.lput1 [59] ⟨by simp,by simp⟩ Hk).mono ?_;rintro e w7 ⟨rfl,hW7,Hj⟩)
    have H7:=zh (H6.o.go oSt oSt hW7 Hj)
    clear hW7 Hj
    clear x0 x1 x2 x3 x4 x5 x6 hl1 hl2 hbl d0 d1 d2 d3 d4 d5 d6 dg
    go_roundg (k-(m+1))
    case measure=>have:=HI.o;omega
    case rel=>
     refine⟨m+1,rfl,by simp,hlt,?_,Hv.o.trans (by have h:=H7.o.kp;first | exact h | (rw[Hw.o]at h;exact h))⟩
     rw[Hm.o]
     simpa[List.append_assoc]using H7.o.wr
   by_cases hkd7:s.kind=7
   ·rw[hkd7]at c1 H1
    have Hd:tl=0:=by
     rcases Hd with h | ⟨h,-⟩
     ·exact h
     ·omega
    subst Hd
    have He:bl=0:=by
     rcases hbg with h | h | h
     ·omega
     ·omega
     ·rw[←J8.o,h];rfl
    have Hn:el=0:=by
     rcases heg with h | h
     ·omega
     ·rw[←hel,h];rfl
    subst He Hn
    obtain⟨w4,hw4⟩:=zE (wr.alloc (.cells #[.int .i64 s.pos,.int .i64 7,.string ⟨s.name.toArray⟩,.slice At 0 ct,.slice (some ⟨gX,offX,none⟩) 1 cx,.slice Ab 0 cb,.slice Ae 0 ce] 69))
    have H3:=Live.first J3.o #[.int .i64 s.pos,.int .i64 7,.string ⟨s.name.toArray⟩,.slice At 0 ct,.slice (some ⟨gX,offX,none⟩) 1 cx,.slice Ab 0 cb,.slice Ae 0 ce] 69 hw4
    rw[hL]at H3
    have H4:=zh H3
    clear H3
    have Hc:Sx.stmt SY s=[]++qx++[[59]]:=by
     rw[H1]
     simp
    rw[Hc]at Ha H0
    simp only[List.length_append,List.length_cons,List.length_nil]at H0
    have Hm:=zh Ha
    have He:(l++lm).length+1≤1000000000:=by simp;omega
    have Hi:(l++lm).length+qx.length≤900000000:=by simp;omega
    have Hk:(l++lm++qx).length+1≤1000000000:=by simp;omega
    clear Ha Hc H1 hnm hbg heg hkd7 hk17 H0 Hx Hh hel htt
    obtain⟨x0,x1,x2,x3,x4,x5,x6⟩:=zbZ H4.o.b1
    obtain⟨hl1,hl2,hbl⟩:=H4.o.lt
    obtain⟨dg,d0,d1,d2,d3,d4,d5,d6⟩:=H2.o w4 H4.o.wr.below
    rw[Nat.zero_mul,Nat.add_zero]at d0 d1 d2 d3 d4 d5 d6
    go_upto_region 24 with(go_at_call 64;refine(Hz.o _ _ w4 Hg.o H4.o.wr Hi).mono ?_;rintro e w5 ⟨rfl,hW5,Hb⟩)
    have H5:=zh (H4.o.go oSt oSt hW5 Hb)
    clear hW5 Hb
    clear x0 x1 x2 x3 x4 x5 x6 hl1 hl2 hbl d0 d1 d2 d3 d4 d5 d6 dg
    obtain⟨x0,x1,x2,x3,x4,x5,x6⟩:=zbZ H5.o.b1
    obtain⟨hl1,hl2,hbl⟩:=H5.o.lt
    obtain⟨dg,d0,d1,d2,d3,d4,d5,d6⟩:=H2.o w5 H5.o.wr.below
    rw[Nat.zero_mul,Nat.add_zero]at d0 d1 d2 d3 d4 d5 d6
    go_wp2_with (go_at_call 100;refine(H5.o.lput1 [59] ⟨by simp,by simp⟩ Hk).mono ?_;rintro e w6 ⟨rfl,hW6,Hf⟩)
    have H6:=zh (H5.o.go oSt oSt hW6 Hf)
    clear hW6 Hf
    clear x0 x1 x2 x3 x4 x5 x6 hl1 hl2 hbl d0 d1 d2 d3 d4 d5 d6 dg
    go_roundg (k-(m+1))
    case measure=>have:=HI.o;omega
    case rel=>
     refine⟨m+1,rfl,by simp,hlt,?_,Hv.o.trans (by have h:=H6.o.kp;first | exact h | (rw[Hw.o]at h;exact h))⟩
     rw[Hm.o]
     simpa[List.append_assoc]using H6.o.wr
   exact absurd hk17 (by omega)
  ·have U4:¬(m:Int)<(k:Int):=by omega
   have Jt:=zh (List.take_of_length_le (show xs.length≤m by have:=HK.o;omega))
   go_wp2_with fail
   go_end0
   refine⟨rfl,?_,Hv.o⟩
   have h8:=Jk.o
   rw[Jt.o]at h8
   simpa using h8
theorem zlzZ {W0:World} {b:Nat} (hG:GS W0) (hN:NG≤W0.heap.size):∀(n:Nat) (xs:List Sx.St),Sx.sizeSs xs≤n→StmtsOk W0 b xs:=by
 intro n
 induction n with
 | zero=>
  intro xs h
  refine zliZ hG hN (fun s hs=>?_) (fun s hs=>?_)
  ·have:=Sx.sizeS_mem hs;have:=Sx.sizeS_pos s;omega
  ·have:=Sx.sizeS_mem hs;have:=Sx.sizeS_pos s;omega
 | succ n ih=>
  intro xs h
  refine zliZ hG hN (fun s hs=>zlhZ (ih _ ?_)) (fun s hs=>zlhZ (ih _ ?_))
  ·have:=Sx.sizeS_mem hs;have:=Sx.sizeS_parts s;omega
  ·have:=Sx.sizeS_mem hs;have:=Sx.sizeS_parts s;omega
theorem Sx.okS_mem {d:Nat} {l:List Sx.St} (h:Sx.rightSs NM d l=true):∀s∈l,Sx.okS s:=fun s hs=>⟨d,Sx.rightSs_mem h s hs⟩
theorem zqjZ (l:List Sx.St) (v:Value) (W:World) (hG:GS W) (hN:NG≤W.heap.size) (ht:StRow W v l) (hsz:Sx.sizeSs l≤1000000) (hlen:(Sx.stmts SY l).length≤900000000) :
  Calls Tryz.prog 24 #[v] W fun e W'=>e=.returned (.tuple #[.string ⟨(Sx.said (Sx.rightSs NM 64 l) (Sx.stmts SY l)).1.toArray⟩,.int .i64 ((Sx.said (Sx.rightSs NM 64 l) (Sx.stmts SY l)).2:Nat)])∧Below W.heap.size W W':=by
 have Ha:∀X,Below W.heap.size W X→Calls Tryz.prog 65 #[v,.int .i64 64] X fun e W'=>e=.returned (.bool (Sx.rightSs NM 64 l))∧Below X.heap.size X W':=fun X hb=>zjnZ 64 (by omega) l v X (hG.below hb) (Nat.le_trans hN hb.size) (ht.below hb) hsz
 have H2:=fun b w (hr:Sx.rightSs NM 64 l=true) (h:Wrote W b 0 [] w)=>zlzZ (b:=b) hG hN _ l (Nat.le_refl _) v [] w (Sx.okS_mem hr) ht hsz h (by simpa using hlen)
 obtain⟨A,c,rfl,-,-⟩:=ht
 obtain⟨L,hL⟩:=zE (W.heap.size)
 obtain⟨w3,hw3⟩:=zE (W.alloc (.cells #[.pointer none,.slice none 0 0,.int .i64 0] 104))
 have H0:w3.heap[L]? =some (.cells #[.pointer none,.slice none 0 0,.int .i64 0] 104 (0,0)):=by rw[←hw3,←hL];exact heap_alloc_new W _
 have H3:Below W.heap.size W w3:=by rw[←hw3];exact zeZ (World.grownBy_alloc W _ none)
 have H7:L<w3.heap.size:=zaZ H0
 have H9:=zh (show ∀w4,Below w3.heap.size w3 w4→Wrote W L 0 [] w4∧L<w4.heap.size from fun w4 H1=>
  ⟨Wrote.fresh (by omega) ((H1.block L H7).trans H0) (H3.trans (H1.mono H3.size)),Nat.lt_of_lt_of_le H7 H1.size⟩)
 have H4:=zh (Ha w3 H3)
 have H5:=zh H2
 have Hb:=zh hlen
 clear Ha H2 hlen H3 H0 hG hsz
 cases hr:Sx.rightSs NM 64 l with
 | false=>
  rw[hr]at H4
  have HR:=zh hr
  clear hr
  go_enter Tryz.func24, Tryz.ntmps24
  go_wp2_with (first
   | (go_at_call 65;refine H4.o.mono ?_;rintro e w4 ⟨rfl,H1⟩;obtain⟨hW,hl4⟩:=H9.o w4 H1;have hW4:=zh hW;clear H1 hW)
   | (go_at_call 60;refine(zdnZ hW4.o (by omega) false (fun _=>rfl)).mono ?_;rintro e w5 ⟨rfl,H6⟩))
  refine bodyPost_ret (results_tmp2 rfl _ _ _) rfl ?_
  exact⟨rfl,by first | exact H6 | exact hL▸H6⟩
 | true=>
  rw[hr]at H4
  have HR:=zh hr
  clear hr
  go_enter Tryz.func24, Tryz.ntmps24
  go_wp2_with (first
   | (go_at_call 65;refine H4.o.mono ?_;rintro e w4 ⟨rfl,H1⟩;obtain⟨hW,hl4⟩:=H9.o w4 H1;have hW4:=zh hW;clear H1 hW)
   | (go_at_call 66;refine(H5.o L w4 HR.o hW4.o).mono ?_;rintro e w5 ⟨rfl,h5,-⟩;have Hc:=h5.lt;have hW5:=zh h5;clear h5)
   | (go_at_call 60;refine(zdnZ hW5.o (by have:=Hb.o;simp;omega) true (fun h=>by cases h)).mono ?_;rintro e w6 ⟨rfl,H8⟩))
  refine bodyPost_ret (results_tmp2 rfl _ _ _) rfl ?_
  exact⟨rfl,by first | exact H8 | exact hL▸H8⟩
end Go.Proofs.YtdncljdfmdgdaaaGreatDoor
namespace Go.Proofs.YtdncljdfmdgdaaaGreatDoor
open Go.RowKit Go.Shelf
def tI:Sx.Ty:=.mk 1 [] [] [] []
def tB:Sx.Ty:=.mk 4 [66] [] [] []
def tA:Sx.Ty:=.mk 4 [97] [] [] []
def tRec:Sx.Ty:=.mk 6 [] [[97],[98]] [false,true] [tI,tB]
def tRec2:Sx.Ty:=.mk 6 [] [[97],[97]] [false,true] [tI,tB]
def tP:Sx.Ty:=.mk 5 [] [] [] [tRec]
def tF:Sx.Ty:=.mk 7 [] [] [] [tI,tB]
def tIf:Sx.Ty:=.mk 8 [] [[97]] [] [tF]
def xN (n:Int):Sx.Ex:=.mk 0 1 n [] [] [] []
def xV (s:Lx.Bytes):Sx.Ex:=.mk 0 4 0 s [] [] []
def xTwo (k:Int) (a b:Sx.Ex):Sx.Ex:=.mk 0 k 0 [] [] [] [a,b]
def xOne (k:Int) (s:Lx.Bytes) (a:Sx.Ex):Sx.Ex:=.mk 0 k 0 s [] [] [a]
theorem isTI (w:World):IsTy w (.agg #[.int .i64 1,.string ⟨#[]⟩,.slice none 0 0,.slice none 0 0,.slice none 0 0]) tI:=IsTy.made (nm:=[]) (StrRow.nil ..) (BoolRow.nil ..) (TyRow.nil ..)
theorem isTN (w:World) (s:Lx.Bytes):IsTy w (.agg #[.int .i64 4,.string ⟨s.toArray⟩,.slice none 0 0,.slice none 0 0,.slice none 0 0]) (.mk 4 s [] [] []):=IsTy.made (StrRow.nil ..) (BoolRow.nil ..) (TyRow.nil ..)
theorem isXN (w:World) (n:Int) (h0:-9223372036854775808≤n) (h1:n≤9223372036854775807):IsEx w (.agg #[.int .i64 0,.int .i64 1,.int .i64 n,.string ⟨#[]⟩,.slice none 0 0,.slice none 0 0,.slice none 0 0]) (xN n):=IsEx.made (s:=[]) (TyRow.nil ..) (StrRow.nil ..) (ExRow.nil ..) h0 h1
theorem isXV (w:World) (s:Lx.Bytes):IsEx w (.agg #[.int .i64 0,.int .i64 4,.int .i64 0,.string ⟨s.toArray⟩,.slice none 0 0,.slice none 0 0,.slice none 0 0]) (xV s):=IsEx.made (TyRow.nil ..) (StrRow.nil ..) (ExRow.nil ..) (by omega) (by omega)
theorem sP:Sx.said (Sx.rightT NM 64 tP) (Sx.typ tP)=([42,32,123,32,97,32,105,110,116,32,59,32,101,109,98,101,100,32,98,32,66,32,59,32,125],0):=by kernel_rfl
theorem sIf:Sx.said (Sx.rightT NM 64 tIf) (Sx.typ tIf)=([105,110,116,101,114,102,97,99,101,32,123,32,97,32,40,32,105,110,116,32,41,32,66,32,59,32,125],0):=by kernel_rfl
theorem sA:Sx.said (Sx.rightT NM 64 tA) (Sx.typ tA)=([],1):=by kernel_rfl
theorem sRec2:Sx.said (Sx.rightT NM 64 tRec2) (Sx.typ tRec2)=([],1):=by kernel_rfl
theorem sNil:Sx.said (Sx.rightSs NM 64 []) (Sx.stmts SY [])=([],0):=by kernel_rfl
theorem nP:Sx.nodesL [tP]=3:=by kernel_rfl
theorem nIf:Sx.nodesL [tIf]=3:=by kernel_rfl
theorem nPI:Sx.nodesL [tP,tIf]=6:=by kernel_rfl
theorem dP:Sx.depthL [tP]=3:=by kernel_rfl
theorem mP:Sx.once [] (Sx.allNamesL [tP])=[[66]]:=by kernel_rfl
theorem e1:Sx.said (Sx.rightX NM 64 (xTwo 15 (xTwo 16 (xN 1) (xN 2)) (xN 3))) (Sx.expr SY (xTwo 15 (xTwo 16 (xN 1) (xN 2)) (xN 3)))=([40,32,49,32,43,32,50,32,41,32,42,32,51],0):=by kernel_rfl
theorem e1z:decide (Sx.sizeX (xTwo 15 (xTwo 16 (xN 1) (xN 2)) (xN 3))≤1000000)=true:=by kernel_rfl
theorem e1l:decide ((Sx.expr SY (xTwo 15 (xTwo 16 (xN 1) (xN 2)) (xN 3))).length≤900000000)=true:=by kernel_rfl
theorem e2:Sx.said (Sx.rightX NM 64 (xTwo 16 (xN 1) (xTwo 15 (xN 2) (xN 3)))) (Sx.expr SY (xTwo 16 (xN 1) (xTwo 15 (xN 2) (xN 3))))=([49,32,43,32,50,32,42,32,51],0):=by kernel_rfl
theorem e2z:decide (Sx.sizeX (xTwo 16 (xN 1) (xTwo 15 (xN 2) (xN 3)))≤1000000)=true:=by kernel_rfl
theorem e2l:decide ((Sx.expr SY (xTwo 16 (xN 1) (xTwo 15 (xN 2) (xN 3)))).length≤900000000)=true:=by kernel_rfl
theorem e3:Sx.said (Sx.rightX NM 64 (xTwo 17 (xN 1) (xTwo 17 (xN 2) (xN 3)))) (Sx.expr SY (xTwo 17 (xN 1) (xTwo 17 (xN 2) (xN 3))))=([49,32,45,32,40,32,50,32,45,32,51,32,41],0):=by kernel_rfl
theorem e3z:decide (Sx.sizeX (xTwo 17 (xN 1) (xTwo 17 (xN 2) (xN 3)))≤1000000)=true:=by kernel_rfl
theorem e3l:decide ((Sx.expr SY (xTwo 17 (xN 1) (xTwo 17 (xN 2) (xN 3)))).length≤900000000)=true:=by kernel_rfl
theorem e4:Sx.said (Sx.rightX NM 64 (xOne 11 [] (xOne 9 [97] (xV [120])))) (Sx.expr SY (xOne 11 [] (xOne 9 [97] (xV [120]))))=([40,32,120,32,46,32,97,32,41,32,40,32,41],0):=by kernel_rfl
theorem e4z:decide (Sx.sizeX (xOne 11 [] (xOne 9 [97] (xV [120])))≤1000000)=true:=by kernel_rfl
theorem e4l:decide ((Sx.expr SY (xOne 11 [] (xOne 9 [97] (xV [120])))).length≤900000000)=true:=by kernel_rfl
theorem e5:Sx.said (Sx.rightX NM 64 (xOne 10 [97] (xV [120]))) (Sx.expr SY (xOne 10 [97] (xV [120])))=([120,32,46,32,97,32,40,32,41],0):=by kernel_rfl
theorem e5z:decide (Sx.sizeX (xOne 10 [97] (xV [120]))≤1000000)=true:=by kernel_rfl
theorem e5l:decide ((Sx.expr SY (xOne 10 [97] (xV [120]))).length≤900000000)=true:=by kernel_rfl
theorem e6:Sx.said (Sx.rightX NM 64 (xOne 14 [] (xTwo 18 (xV [120]) (xV [121])))) (Sx.expr SY (xOne 14 [] (xTwo 18 (xV [120]) (xV [121]))))=([110,111,116,32,40,32,120,32,61,61,32,121,32,41],0):=by kernel_rfl
theorem e6z:decide (Sx.sizeX (xOne 14 [] (xTwo 18 (xV [120]) (xV [121])))≤1000000)=true:=by kernel_rfl
theorem e6l:decide ((Sx.expr SY (xOne 14 [] (xTwo 18 (xV [120]) (xV [121])))).length≤900000000)=true:=by kernel_rfl
theorem e7:Sx.said (Sx.rightX NM 64 (xTwo 18 (xTwo 18 (xV [120]) (xV [121])) (xV [122]))) (Sx.expr SY (xTwo 18 (xTwo 18 (xV [120]) (xV [121])) (xV [122])))=([40,32,120,32,61,61,32,121,32,41,32,61,61,32,122],0):=by kernel_rfl
theorem e7z:decide (Sx.sizeX (xTwo 18 (xTwo 18 (xV [120]) (xV [121])) (xV [122]))≤1000000)=true:=by kernel_rfl
theorem e7l:decide ((Sx.expr SY (xTwo 18 (xTwo 18 (xV [120]) (xV [121])) (xV [122]))).length≤900000000)=true:=by kernel_rfl
theorem e8:Sx.said (Sx.rightX NM 64 (xN (-1))) (Sx.expr SY (xN (-1)))=([],1):=by kernel_rfl
theorem e8l:decide ((Sx.expr SY (xN (-1))).length≤900000000)=true:=by kernel_rfl
theorem ztP:decide (Sx.size tP≤1000000)=true:=by kernel_rfl
theorem ztIf:decide (Sx.size tIf≤1000000)=true:=by kernel_rfl
theorem ztA:decide (Sx.size tA≤1000000)=true:=by kernel_rfl
theorem zwoZ:decide (Sx.size tRec2≤1000000)=true:=by kernel_rfl
structure Bun (w0:World) (Q:World→Prop) (w:World):Prop where
 lw:LW w0 w
 st:∀X X',Q X→Below X.heap.size X X'→Q X'
 q:Q w
theorem Bun.start {w0 w:World} (h:LW w0 w):Bun w0 (fun _=>True) w:=⟨h,fun _ _ _ _=>trivial,trivial⟩
theorem Bun.go {w0 w w':World} {Q:World→Prop} (h:Bun w0 Q w) (hb:Below w.heap.size w w'):Bun w0 Q w':=⟨h.lw.go hb,h.st,h.st _ _ h.q hb⟩
theorem Bun.add {w0 w:World} {Q:World→Prop} (h:Bun w0 Q w) (P:World→Prop) (hP:∀X X',P X→Below X.heap.size X X'→P X') (hp:P w):∃Q':World→Prop,Hid (Bun w0 Q' w)∧Hid (∀X,Q' X→Q X)∧Hid (∀X,Q' X→P X):=
 ⟨fun X=>Q X∧P X,⟨h.lw,fun X X' hh hb=>⟨h.st X X' hh.1 hb,hP X X' hh.2 hb⟩,h.q,hp⟩,fun _ hh=>hh.1,fun _ hh=>hh.2⟩
theorem newW (w:World) (o:Obj):∃w' K,w.alloc o=w'∧w.heap.size=K∧Below w.heap.size w w'∧K<w'.heap.size:=⟨_,_,rfl,rfl,zeZ (World.grownBy_alloc w o none),by simp⟩
theorem zsxZ (w0:World) (hG:GL w0) (hN:NG≤w0.heap.size) :
  Calls Tryz.prog 3 #[] w0 fun e w'=>e=.returned (.bool true)∧LW w0 w':=by
 have B0_0:=zh (Bun.start (LW.refl hG hN))
 have Hd:=zh hN
 clear hG hN
 go_enter Tryz.func3, Tryz.ntmps3
 obtain⟨w1,K0,hw1,hK0,hb1,hl1⟩:=newW w0 (.cells #[.string ⟨#[97]⟩,.string ⟨#[98]⟩] 9)
 have B1_0:=zh (B0_0.o.go hb1)
 clear hb1
 obtain⟨Q1,B1_1,U1,Fsab1⟩:=B1_0.o.add (fun X=>StrRow X (.slice (some ⟨K0,0,none⟩) 2 2) [[97],[98]]) (fun _ _ h b=>h.below b) (by rw[←hw1,←hK0];exact StrRow.new w0 [[97],[98]])
 clear B1_0
 obtain⟨w2,K1,hw2,hK1,hb2,hl2⟩:=newW w1 (.cells #[.bool false,.bool true] 4)
 have B2_1:=zh (B1_1.o.go hb2)
 clear hb2
 obtain⟨Q2,B2_2,U2,Fbft2⟩:=B2_1.o.add (fun X=>BoolRow X (.slice (some ⟨K1,0,none⟩) 2 2) [false,true]) (fun _ _ h b=>h.below b) (by rw[←hw2,←hK1];exact BoolRow.new w1 [false,true])
 clear B2_1
 clear B0_0 B1_1
 go_wp2_with fail
 refine(lawTy 1 none 0 0 w2).mono ?_
 rintro e w3 ⟨rfl,hb⟩
 have B3_2:=zh (B2_2.o.go hb)
 clear hb
 clear hl1 hl2
 clear B2_2
 go_wp2_with fail
 refine(zgrZ ⟨#[66]⟩ w3).mono ?_
 rintro e w4 ⟨rfl,hb⟩
 have B4_2:=zh (B3_2.o.go hb)
 clear hb
 obtain⟨w5,K4,hw5,hK4,hb5,hl5⟩:=newW w4 (.cells #[.int .i64 1,.string ⟨#[]⟩,.slice none 0 0,.slice none 0 0,.slice none 0 0,.int .i64 4,.string ⟨#[66]⟩,.slice none 0 0,.slice none 0 0,.slice none 0 0] 26)
 have B5_2:=zh (B4_2.o.go hb5)
 clear hb5
 obtain⟨Q3,B5_3,U3,Frib3⟩:=B5_2.o.add (fun X=>TyRow X (.slice (some ⟨K4,0,none⟩) 2 2) [tI,tB]) (fun _ _ h b=>h.below b) (by rw[←hw5,←hK4];exact TyRow.new2 (isTI _) (isTN _ [66]))
 clear B5_2
 have GB:=zh (Fbft2.o _ (U3.o _ B5_3.o.q))
 have GR:=zh (Frib3.o _ B5_3.o.q)
 have Hb:=zh B5_3.o.lw.n
 have Hc:=zh B5_3.o.lw.b.size
 obtain⟨Q4,B5_4,U4,Fb84⟩:=B5_3.o.add (fun X=>Below w5.heap.size w5 X) (fun _ _ h b=>h.trans (b.mono h.size)) (Below.refl _ _)
 clear B5_3
 obtain⟨w6,K5,hw6,hK5,hb6,hl6⟩:=newW w5 (.cells #[.int .i64 6,.string ⟨#[]⟩,.slice (some ⟨K0,0,none⟩) 2 2,.slice (some ⟨K1,0,none⟩) 2 2,.slice (some ⟨K4,0,none⟩) 2 2] 26)
 have B6_4:=zh (B5_4.o.go hb6)
 clear hb6
 obtain⟨Q5,B6_5,U5,Frec5⟩:=B6_4.o.add (fun X=>X.heap[K5]? =some (.cells #[.int .i64 6,.string ⟨#[]⟩,.slice (some ⟨K0,0,none⟩) 2 2,.slice (some ⟨K1,0,none⟩) 2 2,.slice (some ⟨K4,0,none⟩) 2 2] 26 (0,0))) (fun _ _ h b=>(b.block _ (zaZ h)).trans h) (by rw[←hw6,←hK5];exact heap_alloc_new w5 _)
 clear B6_4
 obtain⟨Q6,B6_6,U6,Frect6⟩:=B6_5.o.add (fun X=>IsTy X (.agg #[.int .i64 6,.string ⟨#[]⟩,.slice (some ⟨K0,0,none⟩) 2 2,.slice (some ⟨K1,0,none⟩) 2 2,.slice (some ⟨K4,0,none⟩) 2 2]) tRec) (fun _ _ h b=>IsTy.below b _ _ h) (IsTy.made (nm:=[]) (Fsab1.o _ (U2.o _ (U3.o _ (U4.o _ (U5.o _ B6_5.o.q))))) (Fbft2.o _ (U3.o _ (U4.o _ (U5.o _ B6_5.o.q)))) (Frib3.o _ (U4.o _ (U5.o _ B6_5.o.q))))
 clear B6_5
 obtain⟨xrec0_6,xrec1_6,xrec2_6,xrec3_6,xrec4_6⟩:=zcZ (Frec5.o _ (U6.o _ B6_6.o.q))
 have xlrec_6:=zaZ (Frec5.o _ (U6.o _ B6_6.o.q))
 obtain⟨w7,K6,hw7,hK6,hb7,hl7⟩:=newW w6 (.cells #[.int .i64 6,.string ⟨#[]⟩,.slice (some ⟨K0,0,none⟩) 2 2,.slice (some ⟨K1,0,none⟩) 2 2,.slice (some ⟨K4,0,none⟩) 2 2] 26)
 have B7_6:=zh (B6_6.o.go hb7)
 clear hb7
 obtain⟨Q7,B7_7,U7,Frrec7⟩:=B7_6.o.add (fun X=>TyRow X (.slice (some ⟨K6,0,none⟩) 1 1) [tRec]) (fun _ _ h b=>h.below b) (by rw[←hw7,←hK6];exact TyRow.new1 ((Frect6.o _ B6_6.o.q)))
 clear B7_6
 clear B3_2 B4_2 B5_4 B6_6
 go_wp2_with fail
 refine(lawTy 5 _ 1 1 w7).mono ?_
 rintro e w8 ⟨rfl,hb⟩
 have B8_7:=zh (B7_7.o.go hb)
 clear hb
 clear hl5 hl6 xrec0_6 xrec1_6 xrec2_6 xrec3_6 xrec4_6 xlrec_6 hl7
 obtain⟨w9,K8,hw9,hK8,hb9,hl9⟩:=newW w8 (.cells #[.int .i64 5,.string ⟨#[]⟩,.slice none 0 0,.slice none 0 0,.slice (some ⟨K6,0,none⟩) 1 1] 26)
 have B9_7:=zh (B8_7.o.go hb9)
 clear hb9
 obtain⟨Q8,B9_8,U8,Fp8⟩:=B9_7.o.add (fun X=>X.heap[K8]? =some (.cells #[.int .i64 5,.string ⟨#[]⟩,.slice none 0 0,.slice none 0 0,.slice (some ⟨K6,0,none⟩) 1 1] 26 (0,0))) (fun _ _ h b=>(b.block _ (zaZ h)).trans h) (by rw[←hw9,←hK8];exact heap_alloc_new w8 _)
 clear B9_7
 obtain⟨Q9,B9_9,U9,Fpt9⟩:=B9_8.o.add (fun X=>IsTy X (.agg #[.int .i64 5,.string ⟨#[]⟩,.slice none 0 0,.slice none 0 0,.slice (some ⟨K6,0,none⟩) 1 1]) tP) (fun _ _ h b=>IsTy.below b _ _ h) (IsTy.made (nm:=[]) (StrRow.nil ..) (BoolRow.nil ..) (Frrec7.o _ (U8.o _ B9_8.o.q)))
 clear B9_8
 obtain⟨w10,K9,hw10,hK9,hb10,hl10⟩:=newW w9 (.cells #[.string ⟨#[97]⟩] 9)
 have B10_9:=zh (B9_9.o.go hb10)
 clear hb10
 obtain⟨Q10,B10_10,U10,Fsa10⟩:=B10_9.o.add (fun X=>StrRow X (.slice (some ⟨K9,0,none⟩) 1 1) [[97]]) (fun _ _ h b=>h.below b) (by rw[←hw10,←hK9];exact StrRow.new w9 [[97]])
 clear B10_9
 clear B7_7 B8_7 B9_9
 go_wp2_with fail
 refine(lawTy 1 none 0 0 w10).mono ?_
 rintro e w11 ⟨rfl,hb⟩
 have B11_10:=zh (B10_10.o.go hb)
 clear hb
 clear hl9 hl10
 clear B10_10
 go_wp2_with fail
 refine(zgrZ ⟨#[66]⟩ w11).mono ?_
 rintro e w12 ⟨rfl,hb⟩
 have B12_10:=zh (B11_10.o.go hb)
 clear hb
 obtain⟨w13,K12,hw13,hK12,hb13,hl13⟩:=newW w12 (.cells #[.int .i64 1,.string ⟨#[]⟩,.slice none 0 0,.slice none 0 0,.slice none 0 0,.int .i64 4,.string ⟨#[66]⟩,.slice none 0 0,.slice none 0 0,.slice none 0 0] 26)
 have B13_10:=zh (B12_10.o.go hb13)
 clear hb13
 obtain⟨Q11,B13_11,U11,Frib211⟩:=B13_10.o.add (fun X=>TyRow X (.slice (some ⟨K12,0,none⟩) 2 2) [tI,tB]) (fun _ _ h b=>h.below b) (by rw[←hw13,←hK12];exact TyRow.new2 (isTI _) (isTN _ [66]))
 clear B13_10
 clear B11_10 B12_10
 go_wp2_with fail
 refine(lawTy 7 _ 2 2 w13).mono ?_
 rintro e w14 ⟨rfl,hb⟩
 have B14_11:=zh (B13_11.o.go hb)
 clear hb
 clear hl13
 obtain⟨Q12,B14_12,U12,Fft12⟩:=B14_11.o.add (fun X=>IsTy X (.agg #[.int .i64 7,.string ⟨#[]⟩,.slice none 0 0,.slice none 0 0,.slice (some ⟨K12,0,none⟩) 2 2]) tF) (fun _ _ h b=>IsTy.below b _ _ h) (IsTy.made (nm:=[]) (StrRow.nil ..) (BoolRow.nil ..) (Frib211.o _ B14_11.o.q))
 clear B14_11
 obtain⟨w15,K14,hw15,hK14,hb15,hl15⟩:=newW w14 (.cells #[.int .i64 7,.string ⟨#[]⟩,.slice none 0 0,.slice none 0 0,.slice (some ⟨K12,0,none⟩) 2 2] 26)
 have B15_12:=zh (B14_12.o.go hb15)
 clear hb15
 obtain⟨Q13,B15_13,U13,Frf13⟩:=B15_12.o.add (fun X=>TyRow X (.slice (some ⟨K14,0,none⟩) 1 1) [tF]) (fun _ _ h b=>h.below b) (by rw[←hw15,←hK14];exact TyRow.new1 ((Fft12.o _ B14_12.o.q)))
 clear B15_12
 obtain⟨w16,K15,hw16,hK15,hb16,hl16⟩:=newW w15 (.cells #[.int .i64 8,.string ⟨#[]⟩,.slice (some ⟨K9,0,none⟩) 1 1,.slice none 0 0,.slice (some ⟨K14,0,none⟩) 1 1] 26)
 have B16_13:=zh (B15_13.o.go hb16)
 clear hb16
 obtain⟨Q14,B16_14,U14,Fi14⟩:=B16_13.o.add (fun X=>X.heap[K15]? =some (.cells #[.int .i64 8,.string ⟨#[]⟩,.slice (some ⟨K9,0,none⟩) 1 1,.slice none 0 0,.slice (some ⟨K14,0,none⟩) 1 1] 26 (0,0))) (fun _ _ h b=>(b.block _ (zaZ h)).trans h) (by rw[←hw16,←hK15];exact heap_alloc_new w15 _)
 clear B16_13
 obtain⟨Q15,B16_15,U15,Fit15⟩:=B16_14.o.add (fun X=>IsTy X (.agg #[.int .i64 8,.string ⟨#[]⟩,.slice (some ⟨K9,0,none⟩) 1 1,.slice none 0 0,.slice (some ⟨K14,0,none⟩) 1 1]) tIf) (fun _ _ h b=>IsTy.below b _ _ h) (IsTy.made (nm:=[]) (Fsa10.o _ (U11.o _ (U12.o _ (U13.o _ (U14.o _ B16_14.o.q))))) (BoolRow.nil ..) (Frf13.o _ (U14.o _ B16_14.o.q)))
 clear B16_14
 obtain⟨xp0_16,xp1_16,xp2_16,xp3_16,xp4_16⟩:=zcZ (Fp8.o _ (U9.o _ (U10.o _ (U11.o _ (U12.o _ (U13.o _ (U14.o _ (U15.o _ B16_15.o.q))))))))
 have xlp_16:=zaZ (Fp8.o _ (U9.o _ (U10.o _ (U11.o _ (U12.o _ (U13.o _ (U14.o _ (U15.o _ B16_15.o.q))))))))
 clear B13_11 B14_12 B15_13
 go_wp2_with fail
 refine((show Calls Tryz.prog 14 #[_] w16 (fun e W'=>e=.returned (.tuple #[.string ⟨#[42,32,123,32,97,32,105,110,116,32,59,32,101,109,98,101,100,32,98,32,66,32,59,32,125]⟩,.int .i64 0])∧Below w16.heap.size w16 W')from by have h:=zfyZ tP _ w16 B16_15.o.lw.g.gs B16_15.o.lw.n (Fpt9.o _ (U10.o _ (U11.o _ (U12.o _ (U13.o _ (U14.o _ (U15.o _ B16_15.o.q))))))) (of_decide_eq_true ztP);rw[sP]at h;exact h)).mono ?_
 rintro e w17 ⟨rfl,hb⟩
 have B17_15:=zh (B16_15.o.go hb)
 clear hb
 clear hl15 hl16 xp0_16 xp1_16 xp2_16 xp3_16 xp4_16 xlp_16
 obtain⟨xi0_17,xi1_17,xi2_17,xi3_17,xi4_17⟩:=zcZ (Fi14.o _ (U15.o _ B17_15.o.q))
 have xli_17:=zaZ (Fi14.o _ (U15.o _ B17_15.o.q))
 clear B16_15
 go_wp2_with fail
 refine((show Calls Tryz.prog 14 #[_] w17 (fun e W'=>e=.returned (.tuple #[.string ⟨#[105,110,116,101,114,102,97,99,101,32,123,32,97,32,40,32,105,110,116,32,41,32,66,32,59,32,125]⟩,.int .i64 0])∧Below w17.heap.size w17 W')from by have h:=zfyZ tIf _ w17 B17_15.o.lw.g.gs B17_15.o.lw.n (Fit15.o _ B17_15.o.q) (of_decide_eq_true ztIf);rw[sIf]at h;exact h)).mono ?_
 rintro e w18 ⟨rfl,hb⟩
 have B18_15:=zh (B17_15.o.go hb)
 clear hb
 clear xi0_17 xi1_17 xi2_17 xi3_17 xi4_17 xli_17
 obtain⟨xp0_18,xp1_18,xp2_18,xp3_18,xp4_18⟩:=zcZ (Fp8.o _ (U9.o _ (U10.o _ (U11.o _ (U12.o _ (U13.o _ (U14.o _ (U15.o _ B18_15.o.q))))))))
 have xlp_18:=zaZ (Fp8.o _ (U9.o _ (U10.o _ (U11.o _ (U12.o _ (U13.o _ (U14.o _ (U15.o _ B18_15.o.q))))))))
 obtain⟨w19,K18,hw19,hK18,hb19,hl19⟩:=newW w18 (.cells #[.int .i64 5,.string ⟨#[]⟩,.slice none 0 0,.slice none 0 0,.slice (some ⟨K6,0,none⟩) 1 1] 26)
 have B19_15:=zh (B18_15.o.go hb19)
 clear hb19
 obtain⟨Q16,B19_16,U16,Fr116⟩:=B19_15.o.add (fun X=>TyRow X (.slice (some ⟨K18,0,none⟩) 1 1) [tP]) (fun _ _ h b=>h.below b) (by rw[←hw19,←hK18];exact TyRow.new1 ((Fpt9.o _ (U10.o _ (U11.o _ (U12.o _ (U13.o _ (U14.o _ (U15.o _ B18_15.o.q)))))))))
 clear B19_15
 clear B17_15 B18_15
 go_wp2_with fail
 refine((show Calls Tryz.prog 15 #[_] w19 (fun e W'=>e=.returned (.int .i64 3)∧Below w19.heap.size w19 W')from by have h:=zgoZ 1000000 [tP] _ w19 (of_decide_eq_true (by kernel_rfl)) (by omega) (Fr116.o _ B19_16.o.q);rw[nP]at h;exact h)).mono ?_
 rintro e w20 ⟨rfl,hb⟩
 have B20_16:=zh (B19_16.o.go hb)
 clear hb
 clear xp0_18 xp1_18 xp2_18 xp3_18 xp4_18 xlp_18 hl19
 obtain⟨xi0_20,xi1_20,xi2_20,xi3_20,xi4_20⟩:=zcZ (Fi14.o _ (U15.o _ (U16.o _ B20_16.o.q)))
 have xli_20:=zaZ (Fi14.o _ (U15.o _ (U16.o _ B20_16.o.q)))
 obtain⟨w21,K20,hw21,hK20,hb21,hl21⟩:=newW w20 (.cells #[.int .i64 8,.string ⟨#[]⟩,.slice (some ⟨K9,0,none⟩) 1 1,.slice none 0 0,.slice (some ⟨K14,0,none⟩) 1 1] 26)
 have B21_16:=zh (B20_16.o.go hb21)
 clear hb21
 obtain⟨Q17,B21_17,U17,Fr117⟩:=B21_16.o.add (fun X=>TyRow X (.slice (some ⟨K20,0,none⟩) 1 1) [tIf]) (fun _ _ h b=>h.below b) (by rw[←hw21,←hK20];exact TyRow.new1 ((Fit15.o _ (U16.o _ B20_16.o.q))))
 clear B21_16
 clear B19_16 B20_16
 go_wp2_with fail
 refine((show Calls Tryz.prog 15 #[_] w21 (fun e W'=>e=.returned (.int .i64 3)∧Below w21.heap.size w21 W')from by have h:=zgoZ 1000000 [tIf] _ w21 (of_decide_eq_true (by kernel_rfl)) (by omega) (Fr117.o _ B21_17.o.q);rw[nIf]at h;exact h)).mono ?_
 rintro e w22 ⟨rfl,hb⟩
 have B22_17:=zh (B21_17.o.go hb)
 clear hb
 clear xi0_20 xi1_20 xi2_20 xi3_20 xi4_20 xli_20 hl21
 obtain⟨xp0_22,xp1_22,xp2_22,xp3_22,xp4_22⟩:=zcZ (Fp8.o _ (U9.o _ (U10.o _ (U11.o _ (U12.o _ (U13.o _ (U14.o _ (U15.o _ (U16.o _ (U17.o _ B22_17.o.q))))))))))
 have xlp_22:=zaZ (Fp8.o _ (U9.o _ (U10.o _ (U11.o _ (U12.o _ (U13.o _ (U14.o _ (U15.o _ (U16.o _ (U17.o _ B22_17.o.q))))))))))
 obtain⟨xi0_22,xi1_22,xi2_22,xi3_22,xi4_22⟩:=zcZ (Fi14.o _ (U15.o _ (U16.o _ (U17.o _ B22_17.o.q))))
 have xli_22:=zaZ (Fi14.o _ (U15.o _ (U16.o _ (U17.o _ B22_17.o.q))))
 obtain⟨w23,K22,hw23,hK22,hb23,hl23⟩:=newW w22 (.cells #[.int .i64 5,.string ⟨#[]⟩,.slice none 0 0,.slice none 0 0,.slice (some ⟨K6,0,none⟩) 1 1,.int .i64 8,.string ⟨#[]⟩,.slice (some ⟨K9,0,none⟩) 1 1,.slice none 0 0,.slice (some ⟨K14,0,none⟩) 1 1] 26)
 have B23_17:=zh (B22_17.o.go hb23)
 clear hb23
 obtain⟨Q18,B23_18,U18,Fr118⟩:=B23_17.o.add (fun X=>TyRow X (.slice (some ⟨K22,0,none⟩) 2 2) [tP,tIf]) (fun _ _ h b=>h.below b) (by rw[←hw23,←hK22];exact TyRow.new2 ((Fpt9.o _ (U10.o _ (U11.o _ (U12.o _ (U13.o _ (U14.o _ (U15.o _ (U16.o _ (U17.o _ B22_17.o.q)))))))))) ((Fit15.o _ (U16.o _ (U17.o _ B22_17.o.q)))))
 clear B23_17
 clear B21_17 B22_17
 go_wp2_with fail
 refine((show Calls Tryz.prog 15 #[_] w23 (fun e W'=>e=.returned (.int .i64 6)∧Below w23.heap.size w23 W')from by have h:=zgoZ 1000000 [tP,tIf] _ w23 (of_decide_eq_true (by kernel_rfl)) (by omega) (Fr118.o _ B23_18.o.q);rw[nPI]at h;exact h)).mono ?_
 rintro e w24 ⟨rfl,hb⟩
 have B24_18:=zh (B23_18.o.go hb)
 clear hb
 clear xp0_22 xp1_22 xp2_22 xp3_22 xp4_22 xlp_22 xi0_22 xi1_22 xi2_22 xi3_22 xi4_22 xli_22 hl23
 obtain⟨xp0_24,xp1_24,xp2_24,xp3_24,xp4_24⟩:=zcZ (Fp8.o _ (U9.o _ (U10.o _ (U11.o _ (U12.o _ (U13.o _ (U14.o _ (U15.o _ (U16.o _ (U17.o _ (U18.o _ B24_18.o.q)))))))))))
 have xlp_24:=zaZ (Fp8.o _ (U9.o _ (U10.o _ (U11.o _ (U12.o _ (U13.o _ (U14.o _ (U15.o _ (U16.o _ (U17.o _ (U18.o _ B24_18.o.q)))))))))))
 obtain⟨w25,K24,hw25,hK24,hb25,hl25⟩:=newW w24 (.cells #[.int .i64 5,.string ⟨#[]⟩,.slice none 0 0,.slice none 0 0,.slice (some ⟨K6,0,none⟩) 1 1] 26)
 have B25_18:=zh (B24_18.o.go hb25)
 clear hb25
 obtain⟨Q19,B25_19,U19,Fr119⟩:=B25_18.o.add (fun X=>TyRow X (.slice (some ⟨K24,0,none⟩) 1 1) [tP]) (fun _ _ h b=>h.below b) (by rw[←hw25,←hK24];exact TyRow.new1 ((Fpt9.o _ (U10.o _ (U11.o _ (U12.o _ (U13.o _ (U14.o _ (U15.o _ (U16.o _ (U17.o _ (U18.o _ B24_18.o.q))))))))))))
 clear B25_18
 clear B23_18 B24_18
 go_wp2_with fail
 refine((show Calls Tryz.prog 17 #[_] w25 (fun e W'=>∃A,e=.returned (.slice A 1 1)∧StrRow W' (.slice A 1 1) [[66]]∧Below w25.heap.size w25 W')from by have h:=zrhZ [tP] _ w25 (of_decide_eq_true (by kernel_rfl)) (Fr119.o _ B25_19.o.q);rw[mP]at h;exact h)).mono ?_
 rintro e w26 ⟨A1,rfl,H6,hb⟩
 have B26_19:=zh (B25_19.o.go hb)
 clear hb
 clear xp0_24 xp1_24 xp2_24 xp3_24 xp4_24 xlp_24 hl25
 obtain⟨Q20,B26_20,U20,Fnm20⟩:=B26_19.o.add (fun X=>StrRow X (.slice A1 1 1) [[66]]) (fun _ _ h b=>h.below b) (H6)
 clear B26_19
 clear H6
 obtain⟨w27,K26,hw27,hK26,hb27,hl27⟩:=newW w26 (.cells #[.string ⟨#[66]⟩] 9)
 have B27_20:=zh (B26_20.o.go hb27)
 clear hb27
 obtain⟨Q21,B27_21,U21,Fsb21⟩:=B27_20.o.add (fun X=>StrRow X (.slice (some ⟨K26,0,none⟩) 1 1) [[66]]) (fun _ _ h b=>h.below b) (by rw[←hw27,←hK26];exact StrRow.new w26 [[66]])
 clear B27_20
 clear B25_19 B26_20
 go_wp2_with fail
 refine((show Calls Tryz.prog 16 #[_,_] w27 (fun e W'=>e=.returned (.bool true)∧Below w27.heap.size w27 W')from by have h:=znfZ [[66]] [[66]] _ _ w27 (Fnm20.o _ (U21.o _ B27_21.o.q)) (Fsb21.o _ B27_21.o.q) (by simp) (by simp);simpa using h)).mono ?_
 rintro e w28 ⟨rfl,hb⟩
 have B28_21:=zh (B27_21.o.go hb)
 clear hb
 clear hl27
 obtain⟨xp0_28,xp1_28,xp2_28,xp3_28,xp4_28⟩:=zcZ (Fp8.o _ (U9.o _ (U10.o _ (U11.o _ (U12.o _ (U13.o _ (U14.o _ (U15.o _ (U16.o _ (U17.o _ (U18.o _ (U19.o _ (U20.o _ (U21.o _ B28_21.o.q))))))))))))))
 have xlp_28:=zaZ (Fp8.o _ (U9.o _ (U10.o _ (U11.o _ (U12.o _ (U13.o _ (U14.o _ (U15.o _ (U16.o _ (U17.o _ (U18.o _ (U19.o _ (U20.o _ (U21.o _ B28_21.o.q))))))))))))))
 obtain⟨w29,K28,hw29,hK28,hb29,hl29⟩:=newW w28 (.cells #[.int .i64 5,.string ⟨#[]⟩,.slice none 0 0,.slice none 0 0,.slice (some ⟨K6,0,none⟩) 1 1] 26)
 have B29_21:=zh (B28_21.o.go hb29)
 clear hb29
 obtain⟨Q22,B29_22,U22,Fr122⟩:=B29_21.o.add (fun X=>TyRow X (.slice (some ⟨K28,0,none⟩) 1 1) [tP]) (fun _ _ h b=>h.below b) (by rw[←hw29,←hK28];exact TyRow.new1 ((Fpt9.o _ (U10.o _ (U11.o _ (U12.o _ (U13.o _ (U14.o _ (U15.o _ (U16.o _ (U17.o _ (U18.o _ (U19.o _ (U20.o _ (U21.o _ B28_21.o.q)))))))))))))))
 clear B29_21
 clear B27_21 B28_21
 go_wp2_with fail
 refine((show Calls Tryz.prog 18 #[_] w29 (fun e W'=>e=.returned (.int .i64 3)∧Below w29.heap.size w29 W')from by have h:=zkhZ 1000000 [tP] _ w29 (of_decide_eq_true (by kernel_rfl)) (by omega) (Fr122.o _ B29_22.o.q);rw[dP]at h;exact h)).mono ?_
 rintro e w30 ⟨rfl,hb⟩
 have B30_22:=zh (B29_22.o.go hb)
 clear hb
 clear xp0_28 xp1_28 xp2_28 xp3_28 xp4_28 xlp_28 hl29
 clear B29_22
 go_wp2_with fail
 refine((show Calls Tryz.prog 18 #[_] w30 (fun e W'=>e=.returned (.int .i64 0)∧Below w30.heap.size w30 W')from by have h:=zkhZ 1000000 [] _ w30 (by simp[Sx.sizeL]) (by omega) (TyRow.nil w30 none 0);rw[show Sx.depthL []=0 from rfl]at h;exact h)).mono ?_
 rintro e w31 ⟨rfl,hb⟩
 have B31_22:=zh (B30_22.o.go hb)
 clear hb
 clear B30_22
 go_wp2_with fail
 refine(zcyZ ⟨#[120]⟩ w31).mono ?_
 rintro e w32 ⟨rfl,hb⟩
 have B32_22:=zh (B31_22.o.go hb)
 clear hb
 obtain⟨w33,K32,hw33,hK32,hb33,hl33⟩:=newW w32 (.cells #[.int .i64 0,.int .i64 4,.int .i64 0,.string ⟨#[120]⟩,.slice none 0 0,.slice none 0 0,.slice none 0 0] 39)
 have B33_22:=zh (B32_22.o.go hb33)
 clear hb33
 obtain⟨Q23,B33_23,U23,Frx23⟩:=B33_22.o.add (fun X=>ExRow X (.slice (some ⟨K32,0,none⟩) 1 1) [xV [120]]) (fun _ _ h b=>h.below b) (by rw[←hw33,←hK32];exact ExRow.new1 (isXV _ [120]))
 clear B33_22
 obtain⟨w34,K33,hw34,hK33,hb34,hl34⟩:=newW w33 (.cells #[.int .i64 0,.int .i64 9,.int .i64 0,.string ⟨#[97]⟩,.slice none 0 0,.slice none 0 0,.slice (some ⟨K32,0,none⟩) 1 1] 39)
 have B34_23:=zh (B33_23.o.go hb34)
 clear hb34
 obtain⟨Q24,B34_24,U24,Ffi24⟩:=B34_23.o.add (fun X=>X.heap[K33]? =some (.cells #[.int .i64 0,.int .i64 9,.int .i64 0,.string ⟨#[97]⟩,.slice none 0 0,.slice none 0 0,.slice (some ⟨K32,0,none⟩) 1 1] 39 (0,0))) (fun _ _ h b=>(b.block _ (zaZ h)).trans h) (by rw[←hw34,←hK33];exact heap_alloc_new w33 _)
 clear B34_23
 obtain⟨xfi0_34,xfi1_34,xfi2_34,xfi3_34,xfi4_34,xfi5_34,xfi6_34⟩:=zbZ (Ffi24.o _ B34_24.o.q)
 have xlfi_34:=zaZ (Ffi24.o _ B34_24.o.q)
 obtain⟨w35,K34,hw35,hK34,hb35,hl35⟩:=newW w34 (.cells #[.int .i64 0,.int .i64 10,.int .i64 0,.string ⟨#[97]⟩,.slice none 0 0,.slice none 0 0,.slice (some ⟨K32,0,none⟩) 1 1] 39)
 have B35_24:=zh (B34_24.o.go hb35)
 clear hb35
 obtain⟨Q25,B35_25,U25,Fca25⟩:=B35_24.o.add (fun X=>X.heap[K34]? =some (.cells #[.int .i64 0,.int .i64 10,.int .i64 0,.string ⟨#[97]⟩,.slice none 0 0,.slice none 0 0,.slice (some ⟨K32,0,none⟩) 1 1] 39 (0,0))) (fun _ _ h b=>(b.block _ (zaZ h)).trans h) (by rw[←hw35,←hK34];exact heap_alloc_new w34 _)
 clear B35_24
 obtain⟨Q26,B35_26,U26,Ffix26⟩:=B35_25.o.add (fun X=>IsEx X (.agg #[.int .i64 0,.int .i64 9,.int .i64 0,.string ⟨#[97]⟩,.slice none 0 0,.slice none 0 0,.slice (some ⟨K32,0,none⟩) 1 1]) (xOne 9 [97] (xV [120]))) (fun _ _ h b=>IsEx.below b _ _ h) (IsEx.made (s:=[97]) (TyRow.nil ..) (StrRow.nil ..) (Frx23.o _ (U24.o _ (U25.o _ B35_25.o.q))) (by omega) (by omega))
 clear B35_25
 obtain⟨Q27,B35_27,U27,Fcax27⟩:=B35_26.o.add (fun X=>IsEx X (.agg #[.int .i64 0,.int .i64 10,.int .i64 0,.string ⟨#[97]⟩,.slice none 0 0,.slice none 0 0,.slice (some ⟨K32,0,none⟩) 1 1]) (xOne 10 [97] (xV [120]))) (fun _ _ h b=>IsEx.below b _ _ h) (IsEx.made (s:=[97]) (TyRow.nil ..) (StrRow.nil ..) (Frx23.o _ (U24.o _ (U25.o _ (U26.o _ B35_26.o.q)))) (by omega) (by omega))
 clear B35_26
 clear B31_22 B32_22 B33_23 B34_24
 go_wp2_with fail
 refine(zcyZ ⟨#[120]⟩ w35).mono ?_
 rintro e w36 ⟨rfl,hb⟩
 have B36_27:=zh (B35_27.o.go hb)
 clear hb
 clear hl33 hl34 xfi0_34 xfi1_34 xfi2_34 xfi3_34 xfi4_34 xfi5_34 xfi6_34 xlfi_34 hl35
 obtain⟨w37,K36,hw37,hK36,hb37,hl37⟩:=newW w36 (.cells #[.int .i64 0,.int .i64 4,.int .i64 0,.string ⟨#[120]⟩,.slice none 0 0,.slice none 0 0,.slice none 0 0] 39)
 have B37_27:=zh (B36_27.o.go hb37)
 clear hb37
 obtain⟨Q28,B37_28,U28,Fx28⟩:=B37_27.o.add (fun X=>X.heap[K36]? =some (.cells #[.int .i64 0,.int .i64 4,.int .i64 0,.string ⟨#[120]⟩,.slice none 0 0,.slice none 0 0,.slice none 0 0] 39 (0,0))) (fun _ _ h b=>(b.block _ (zaZ h)).trans h) (by rw[←hw37,←hK36];exact heap_alloc_new w36 _)
 clear B37_27
 have H2:=zh hw37
 clear hw37
 clear B35_27 B36_27
 go_wp2_with fail
 rw[H2.o]
 clear H2
 refine(zcyZ ⟨#[121]⟩ w37).mono ?_
 rintro e w38 ⟨rfl,hb⟩
 have B38_28:=zh (B37_28.o.go hb)
 clear hb
 clear hl37
 obtain⟨w39,K38,hw39,hK38,hb39,hl39⟩:=newW w38 (.cells #[.int .i64 0,.int .i64 4,.int .i64 0,.string ⟨#[121]⟩,.slice none 0 0,.slice none 0 0,.slice none 0 0] 39)
 have B39_28:=zh (B38_28.o.go hb39)
 clear hb39
 obtain⟨Q29,B39_29,U29,Fy29⟩:=B39_28.o.add (fun X=>X.heap[K38]? =some (.cells #[.int .i64 0,.int .i64 4,.int .i64 0,.string ⟨#[121]⟩,.slice none 0 0,.slice none 0 0,.slice none 0 0] 39 (0,0))) (fun _ _ h b=>(b.block _ (zaZ h)).trans h) (by rw[←hw39,←hK38];exact heap_alloc_new w38 _)
 clear B39_28
 have H2:=zh hw39
 clear hw39
 clear B37_28 B38_28
 go_wp2_with fail
 rw[H2.o]
 clear H2
 refine(zcaZ 1 w39).mono ?_
 rintro e w40 ⟨rfl,hb⟩
 have B40_29:=zh (B39_29.o.go hb)
 clear hb
 clear hl39
 clear B39_29
 go_wp2_with fail
 refine(zcaZ 2 w40).mono ?_
 rintro e w41 ⟨rfl,hb⟩
 have B41_29:=zh (B40_29.o.go hb)
 clear hb
 clear B40_29
 go_wp2_with fail
 refine(zcnZ 16 (xN 1) (xN 2) _ _ w41 (isXN _ 1 (by omega) (by omega)) (isXN _ 2 (by omega) (by omega))).mono ?_
 rintro e w42 ⟨g1,rfl,hr,hb⟩
 have B42_29:=zh (B41_29.o.go hb)
 clear hb
 obtain⟨Q30,B42_30,U30,Ft130⟩:=B42_29.o.add (fun X=>IsEx X (.agg #[.int .i64 0,.int .i64 16,.int .i64 0,.string ⟨#[]⟩,.slice none 0 0,.slice none 0 0,.slice (some ⟨g1,0,none⟩) 2 2]) (xTwo 16 (xN 1) (xN 2))) (fun _ _ h b=>IsEx.below b _ _ h) (IsEx.made (s:=[]) (TyRow.nil ..) (StrRow.nil ..) hr (by omega) (by omega))
 clear B42_29
 clear hr
 clear B41_29
 go_wp2_with fail
 refine(zcaZ 3 w42).mono ?_
 rintro e w43 ⟨rfl,hb⟩
 have B43_30:=zh (B42_30.o.go hb)
 clear hb
 clear B42_30
 go_wp2_with fail
 refine(zcnZ 15 (xTwo 16 (xN 1) (xN 2)) (xN 3) _ _ w43 ((Ft130.o _ B43_30.o.q)) (isXN _ 3 (by omega) (by omega))).mono ?_
 rintro e w44 ⟨g2,rfl,hr,hb⟩
 have B44_30:=zh (B43_30.o.go hb)
 clear hb
 obtain⟨Q31,B44_31,U31,Ft231⟩:=B44_30.o.add (fun X=>IsEx X (.agg #[.int .i64 0,.int .i64 15,.int .i64 0,.string ⟨#[]⟩,.slice none 0 0,.slice none 0 0,.slice (some ⟨g2,0,none⟩) 2 2]) (xTwo 15 (xTwo 16 (xN 1) (xN 2)) (xN 3))) (fun _ _ h b=>IsEx.below b _ _ h) (IsEx.made (s:=[]) (TyRow.nil ..) (StrRow.nil ..) hr (by omega) (by omega))
 clear B44_30
 clear hr
 clear B43_30
 go_wp2_with fail
 refine(zcsZ _ [40,32,49,32,43,32,50,32,41,32,42,32,51] _ w44 B44_31.o.lw.g.gs B44_31.o.lw.n ((Ft231.o _ B44_31.o.q)) (of_decide_eq_true e1z) (of_decide_eq_true e1l) e1).mono ?_
 rintro e w45 ⟨rfl,hb⟩
 have B45_31:=zh (B44_31.o.go hb)
 clear hb
 clear B44_31
 go_wp2_with fail
 refine(zcaZ 1 w45).mono ?_
 rintro e w46 ⟨rfl,hb⟩
 have B46_31:=zh (B45_31.o.go hb)
 clear hb
 clear B45_31
 go_wp2_with fail
 refine(zcaZ 2 w46).mono ?_
 rintro e w47 ⟨rfl,hb⟩
 have B47_31:=zh (B46_31.o.go hb)
 clear hb
 clear B46_31
 go_wp2_with fail
 refine(zcaZ 3 w47).mono ?_
 rintro e w48 ⟨rfl,hb⟩
 have B48_31:=zh (B47_31.o.go hb)
 clear hb
 clear B47_31
 go_wp2_with fail
 refine(zcnZ 15 (xN 2) (xN 3) _ _ w48 (isXN _ 2 (by omega) (by omega)) (isXN _ 3 (by omega) (by omega))).mono ?_
 rintro e w49 ⟨g3,rfl,hr,hb⟩
 have B49_31:=zh (B48_31.o.go hb)
 clear hb
 obtain⟨Q32,B49_32,U32,Ft332⟩:=B49_31.o.add (fun X=>IsEx X (.agg #[.int .i64 0,.int .i64 15,.int .i64 0,.string ⟨#[]⟩,.slice none 0 0,.slice none 0 0,.slice (some ⟨g3,0,none⟩) 2 2]) (xTwo 15 (xN 2) (xN 3))) (fun _ _ h b=>IsEx.below b _ _ h) (IsEx.made (s:=[]) (TyRow.nil ..) (StrRow.nil ..) hr (by omega) (by omega))
 clear B49_31
 clear hr
 clear B48_31
 go_wp2_with fail
 refine(zcnZ 16 (xN 1) (xTwo 15 (xN 2) (xN 3)) _ _ w49 (isXN _ 1 (by omega) (by omega)) ((Ft332.o _ B49_32.o.q))).mono ?_
 rintro e w50 ⟨g4,rfl,hr,hb⟩
 have B50_32:=zh (B49_32.o.go hb)
 clear hb
 obtain⟨Q33,B50_33,U33,Ft433⟩:=B50_32.o.add (fun X=>IsEx X (.agg #[.int .i64 0,.int .i64 16,.int .i64 0,.string ⟨#[]⟩,.slice none 0 0,.slice none 0 0,.slice (some ⟨g4,0,none⟩) 2 2]) (xTwo 16 (xN 1) (xTwo 15 (xN 2) (xN 3)))) (fun _ _ h b=>IsEx.below b _ _ h) (IsEx.made (s:=[]) (TyRow.nil ..) (StrRow.nil ..) hr (by omega) (by omega))
 clear B50_32
 clear hr
 clear B49_32
 go_wp2_with fail
 refine(zcsZ _ [49,32,43,32,50,32,42,32,51] _ w50 B50_33.o.lw.g.gs B50_33.o.lw.n ((Ft433.o _ B50_33.o.q)) (of_decide_eq_true e2z) (of_decide_eq_true e2l) e2).mono ?_
 rintro e w51 ⟨rfl,hb⟩
 have B51_33:=zh (B50_33.o.go hb)
 clear hb
 clear B50_33
 go_wp2_with fail
 refine(zcaZ 1 w51).mono ?_
 rintro e w52 ⟨rfl,hb⟩
 have B52_33:=zh (B51_33.o.go hb)
 clear hb
 clear B51_33
 go_wp2_with fail
 refine(zcaZ 2 w52).mono ?_
 rintro e w53 ⟨rfl,hb⟩
 have B53_33:=zh (B52_33.o.go hb)
 clear hb
 clear B52_33
 go_wp2_with fail
 refine(zcaZ 3 w53).mono ?_
 rintro e w54 ⟨rfl,hb⟩
 have B54_33:=zh (B53_33.o.go hb)
 clear hb
 clear B53_33
 go_wp2_with fail
 refine(zcnZ 17 (xN 2) (xN 3) _ _ w54 (isXN _ 2 (by omega) (by omega)) (isXN _ 3 (by omega) (by omega))).mono ?_
 rintro e w55 ⟨g5,rfl,hr,hb⟩
 have B55_33:=zh (B54_33.o.go hb)
 clear hb
 obtain⟨Q34,B55_34,U34,Ft534⟩:=B55_33.o.add (fun X=>IsEx X (.agg #[.int .i64 0,.int .i64 17,.int .i64 0,.string ⟨#[]⟩,.slice none 0 0,.slice none 0 0,.slice (some ⟨g5,0,none⟩) 2 2]) (xTwo 17 (xN 2) (xN 3))) (fun _ _ h b=>IsEx.below b _ _ h) (IsEx.made (s:=[]) (TyRow.nil ..) (StrRow.nil ..) hr (by omega) (by omega))
 clear B55_33
 clear hr
 clear B54_33
 go_wp2_with fail
 refine(zcnZ 17 (xN 1) (xTwo 17 (xN 2) (xN 3)) _ _ w55 (isXN _ 1 (by omega) (by omega)) ((Ft534.o _ B55_34.o.q))).mono ?_
 rintro e w56 ⟨g6,rfl,hr,hb⟩
 have B56_34:=zh (B55_34.o.go hb)
 clear hb
 obtain⟨Q35,B56_35,U35,Ft635⟩:=B56_34.o.add (fun X=>IsEx X (.agg #[.int .i64 0,.int .i64 17,.int .i64 0,.string ⟨#[]⟩,.slice none 0 0,.slice none 0 0,.slice (some ⟨g6,0,none⟩) 2 2]) (xTwo 17 (xN 1) (xTwo 17 (xN 2) (xN 3)))) (fun _ _ h b=>IsEx.below b _ _ h) (IsEx.made (s:=[]) (TyRow.nil ..) (StrRow.nil ..) hr (by omega) (by omega))
 clear B56_34
 clear hr
 clear B55_34
 go_wp2_with fail
 refine(zcsZ _ [49,32,45,32,40,32,50,32,45,32,51,32,41] _ w56 B56_35.o.lw.g.gs B56_35.o.lw.n ((Ft635.o _ B56_35.o.q)) (of_decide_eq_true e3z) (of_decide_eq_true e3l) e3).mono ?_
 rintro e w57 ⟨rfl,hb⟩
 have B57_35:=zh (B56_35.o.go hb)
 clear hb
 obtain⟨xfi0_57,xfi1_57,xfi2_57,xfi3_57,xfi4_57,xfi5_57,xfi6_57⟩:=zbZ (Ffi24.o _ (U25.o _ (U26.o _ (U27.o _ (U28.o _ (U29.o _ (U30.o _ (U31.o _ (U32.o _ (U33.o _ (U34.o _ (U35.o _ B57_35.o.q))))))))))))
 have xlfi_57:=zaZ (Ffi24.o _ (U25.o _ (U26.o _ (U27.o _ (U28.o _ (U29.o _ (U30.o _ (U31.o _ (U32.o _ (U33.o _ (U34.o _ (U35.o _ B57_35.o.q))))))))))))
 obtain⟨w58,K57,hw58,hK57,hb58,hl58⟩:=newW w57 (.cells #[.int .i64 0,.int .i64 9,.int .i64 0,.string ⟨#[97]⟩,.slice none 0 0,.slice none 0 0,.slice (some ⟨K32,0,none⟩) 1 1] 39)
 have B58_35:=zh (B57_35.o.go hb58)
 clear hb58
 obtain⟨Q36,B58_36,U36,Fra36⟩:=B58_35.o.add (fun X=>ExRow X (.slice (some ⟨K57,0,none⟩) 1 1) [xOne 9 [97] (xV [120])]) (fun _ _ h b=>h.below b) (by rw[←hw58,←hK57];exact ExRow.new1 ((Ffix26.o _ (U27.o _ (U28.o _ (U29.o _ (U30.o _ (U31.o _ (U32.o _ (U33.o _ (U34.o _ (U35.o _ B57_35.o.q))))))))))))
 clear B58_35
 obtain⟨Q37,B58_37,U37,Ftap37⟩:=B58_36.o.add (fun X=>IsEx X (.agg #[.int .i64 0,.int .i64 11,.int .i64 0,.string ⟨#[]⟩,.slice none 0 0,.slice none 0 0,.slice (some ⟨K57,0,none⟩) 1 1]) (xOne 11 [] (xOne 9 [97] (xV [120])))) (fun _ _ h b=>IsEx.below b _ _ h) (IsEx.made (s:=[]) (TyRow.nil ..) (StrRow.nil ..) (Fra36.o _ B58_36.o.q) (by omega) (by omega))
 clear B58_36
 clear B56_35 B57_35
 go_wp2_with fail
 refine(zcsZ _ [40,32,120,32,46,32,97,32,41,32,40,32,41] _ w58 B58_37.o.lw.g.gs B58_37.o.lw.n ((Ftap37.o _ B58_37.o.q)) (of_decide_eq_true e4z) (of_decide_eq_true e4l) e4).mono ?_
 rintro e w59 ⟨rfl,hb⟩
 have B59_37:=zh (B58_37.o.go hb)
 clear hb
 clear xfi0_57 xfi1_57 xfi2_57 xfi3_57 xfi4_57 xfi5_57 xfi6_57 xlfi_57 hl58
 obtain⟨xca0_59,xca1_59,xca2_59,xca3_59,xca4_59,xca5_59,xca6_59⟩:=zbZ (Fca25.o _ (U26.o _ (U27.o _ (U28.o _ (U29.o _ (U30.o _ (U31.o _ (U32.o _ (U33.o _ (U34.o _ (U35.o _ (U36.o _ (U37.o _ B59_37.o.q)))))))))))))
 have xlca_59:=zaZ (Fca25.o _ (U26.o _ (U27.o _ (U28.o _ (U29.o _ (U30.o _ (U31.o _ (U32.o _ (U33.o _ (U34.o _ (U35.o _ (U36.o _ (U37.o _ B59_37.o.q)))))))))))))
 clear B58_37
 go_wp2_with fail
 refine(zcsZ _ [120,32,46,32,97,32,40,32,41] _ w59 B59_37.o.lw.g.gs B59_37.o.lw.n ((Fcax27.o _ (U28.o _ (U29.o _ (U30.o _ (U31.o _ (U32.o _ (U33.o _ (U34.o _ (U35.o _ (U36.o _ (U37.o _ B59_37.o.q)))))))))))) (of_decide_eq_true e5z) (of_decide_eq_true e5l) e5).mono ?_
 rintro e w60 ⟨rfl,hb⟩
 have B60_37:=zh (B59_37.o.go hb)
 clear hb
 clear xca0_59 xca1_59 xca2_59 xca3_59 xca4_59 xca5_59 xca6_59 xlca_59
 obtain⟨xx0_60,xx1_60,xx2_60,xx3_60,xx4_60,xx5_60,xx6_60⟩:=zbZ (Fx28.o _ (U29.o _ (U30.o _ (U31.o _ (U32.o _ (U33.o _ (U34.o _ (U35.o _ (U36.o _ (U37.o _ B60_37.o.q))))))))))
 have xlx_60:=zaZ (Fx28.o _ (U29.o _ (U30.o _ (U31.o _ (U32.o _ (U33.o _ (U34.o _ (U35.o _ (U36.o _ (U37.o _ B60_37.o.q))))))))))
 obtain⟨xy0_60,xy1_60,xy2_60,xy3_60,xy4_60,xy5_60,xy6_60⟩:=zbZ (Fy29.o _ (U30.o _ (U31.o _ (U32.o _ (U33.o _ (U34.o _ (U35.o _ (U36.o _ (U37.o _ B60_37.o.q)))))))))
 have xly_60:=zaZ (Fy29.o _ (U30.o _ (U31.o _ (U32.o _ (U33.o _ (U34.o _ (U35.o _ (U36.o _ (U37.o _ B60_37.o.q)))))))))
 clear B59_37
 go_wp2_with fail
 refine(zcnZ 18 (xV [120]) (xV [121]) _ _ w60 (isXV _ [120]) (isXV _ [121])).mono ?_
 rintro e w61 ⟨g7,rfl,hr,hb⟩
 have B61_37:=zh (B60_37.o.go hb)
 clear hb
 clear xx0_60 xx1_60 xx2_60 xx3_60 xx4_60 xx5_60 xx6_60 xlx_60 xy0_60 xy1_60 xy2_60 xy3_60 xy4_60 xy5_60 xy6_60 xly_60
 obtain⟨Q38,B61_38,U38,Ft738⟩:=B61_37.o.add (fun X=>IsEx X (.agg #[.int .i64 0,.int .i64 18,.int .i64 0,.string ⟨#[]⟩,.slice none 0 0,.slice none 0 0,.slice (some ⟨g7,0,none⟩) 2 2]) (xTwo 18 (xV [120]) (xV [121]))) (fun _ _ h b=>IsEx.below b _ _ h) (IsEx.made (s:=[]) (TyRow.nil ..) (StrRow.nil ..) hr (by omega) (by omega))
 clear B61_37
 clear hr
 obtain⟨w62,K61,hw62,hK61,hb62,hl62⟩:=newW w61 (.cells #[.int .i64 0,.int .i64 18,.int .i64 0,.string ⟨#[]⟩,.slice none 0 0,.slice none 0 0,.slice (some ⟨g7,0,none⟩) 2 2] 39)
 have B62_38:=zh (B61_38.o.go hb62)
 clear hb62
 obtain⟨Q39,B62_39,U39,Frn39⟩:=B62_38.o.add (fun X=>ExRow X (.slice (some ⟨K61,0,none⟩) 1 1) [xTwo 18 (xV [120]) (xV [121])]) (fun _ _ h b=>h.below b) (by rw[←hw62,←hK61];exact ExRow.new1 ((Ft738.o _ B61_38.o.q)))
 clear B62_38
 obtain⟨Q40,B62_40,U40,Ftno40⟩:=B62_39.o.add (fun X=>IsEx X (.agg #[.int .i64 0,.int .i64 14,.int .i64 0,.string ⟨#[]⟩,.slice none 0 0,.slice none 0 0,.slice (some ⟨K61,0,none⟩) 1 1]) (xOne 14 [] (xTwo 18 (xV [120]) (xV [121])))) (fun _ _ h b=>IsEx.below b _ _ h) (IsEx.made (s:=[]) (TyRow.nil ..) (StrRow.nil ..) (Frn39.o _ B62_39.o.q) (by omega) (by omega))
 clear B62_39
 clear B60_37 B61_38
 go_wp2_with fail
 refine(zcsZ _ [110,111,116,32,40,32,120,32,61,61,32,121,32,41] _ w62 B62_40.o.lw.g.gs B62_40.o.lw.n ((Ftno40.o _ B62_40.o.q)) (of_decide_eq_true e6z) (of_decide_eq_true e6l) e6).mono ?_
 rintro e w63 ⟨rfl,hb⟩
 have B63_40:=zh (B62_40.o.go hb)
 clear hb
 clear hl62
 obtain⟨xx0_63,xx1_63,xx2_63,xx3_63,xx4_63,xx5_63,xx6_63⟩:=zbZ (Fx28.o _ (U29.o _ (U30.o _ (U31.o _ (U32.o _ (U33.o _ (U34.o _ (U35.o _ (U36.o _ (U37.o _ (U38.o _ (U39.o _ (U40.o _ B63_40.o.q)))))))))))))
 have xlx_63:=zaZ (Fx28.o _ (U29.o _ (U30.o _ (U31.o _ (U32.o _ (U33.o _ (U34.o _ (U35.o _ (U36.o _ (U37.o _ (U38.o _ (U39.o _ (U40.o _ B63_40.o.q)))))))))))))
 obtain⟨xy0_63,xy1_63,xy2_63,xy3_63,xy4_63,xy5_63,xy6_63⟩:=zbZ (Fy29.o _ (U30.o _ (U31.o _ (U32.o _ (U33.o _ (U34.o _ (U35.o _ (U36.o _ (U37.o _ (U38.o _ (U39.o _ (U40.o _ B63_40.o.q))))))))))))
 have xly_63:=zaZ (Fy29.o _ (U30.o _ (U31.o _ (U32.o _ (U33.o _ (U34.o _ (U35.o _ (U36.o _ (U37.o _ (U38.o _ (U39.o _ (U40.o _ B63_40.o.q))))))))))))
 clear B62_40
 go_wp2_with fail
 refine(zcnZ 18 (xV [120]) (xV [121]) _ _ w63 (isXV _ [120]) (isXV _ [121])).mono ?_
 rintro e w64 ⟨g8,rfl,hr,hb⟩
 have B64_40:=zh (B63_40.o.go hb)
 clear hb
 clear xx0_63 xx1_63 xx2_63 xx3_63 xx4_63 xx5_63 xx6_63 xlx_63 xy0_63 xy1_63 xy2_63 xy3_63 xy4_63 xy5_63 xy6_63 xly_63
 obtain⟨Q41,B64_41,U41,Ft841⟩:=B64_40.o.add (fun X=>IsEx X (.agg #[.int .i64 0,.int .i64 18,.int .i64 0,.string ⟨#[]⟩,.slice none 0 0,.slice none 0 0,.slice (some ⟨g8,0,none⟩) 2 2]) (xTwo 18 (xV [120]) (xV [121]))) (fun _ _ h b=>IsEx.below b _ _ h) (IsEx.made (s:=[]) (TyRow.nil ..) (StrRow.nil ..) hr (by omega) (by omega))
 clear B64_40
 clear hr
 clear B63_40
 go_wp2_with fail
 refine(zcyZ ⟨#[122]⟩ w64).mono ?_
 rintro e w65 ⟨rfl,hb⟩
 have B65_41:=zh (B64_41.o.go hb)
 clear hb
 clear B64_41
 go_wp2_with fail
 refine(zcnZ 18 (xTwo 18 (xV [120]) (xV [121])) (xV [122]) _ _ w65 ((Ft841.o _ B65_41.o.q)) (isXV _ [122])).mono ?_
 rintro e w66 ⟨g9,rfl,hr,hb⟩
 have B66_41:=zh (B65_41.o.go hb)
 clear hb
 obtain⟨Q42,B66_42,U42,Ft942⟩:=B66_41.o.add (fun X=>IsEx X (.agg #[.int .i64 0,.int .i64 18,.int .i64 0,.string ⟨#[]⟩,.slice none 0 0,.slice none 0 0,.slice (some ⟨g9,0,none⟩) 2 2]) (xTwo 18 (xTwo 18 (xV [120]) (xV [121])) (xV [122]))) (fun _ _ h b=>IsEx.below b _ _ h) (IsEx.made (s:=[]) (TyRow.nil ..) (StrRow.nil ..) hr (by omega) (by omega))
 clear B66_41
 clear hr
 clear B65_41
 go_wp2_with fail
 refine(zcsZ _ [40,32,120,32,61,61,32,121,32,41,32,61,61,32,122] _ w66 B66_42.o.lw.g.gs B66_42.o.lw.n ((Ft942.o _ B66_42.o.q)) (of_decide_eq_true e7z) (of_decide_eq_true e7l) e7).mono ?_
 rintro e w67 ⟨rfl,hb⟩
 have B67_42:=zh (B66_42.o.go hb)
 clear hb
 clear B66_42
 go_wp2_with fail
 refine(zcaZ (-1) w67).mono ?_
 rintro e w68 ⟨rfl,hb⟩
 have B68_42:=zh (B67_42.o.go hb)
 clear hb
 clear B67_42
 go_wp2_with fail
 refine((show Calls Tryz.prog 23 #[_] w68 (fun e W'=>e=.returned (.tuple #[.string ⟨#[]⟩,.int .i64 1])∧Below w68.heap.size w68 W')from by have h:=zhzZ (xN (-1)) _ w68 B68_42.o.lw.g.gs B68_42.o.lw.n (isXN _ (-1) (by omega) (by omega)) (by simp[xN,Sx.sizeX,Sx.sizeL,Sx.sizeXs]) (of_decide_eq_true e8l);rw[e8]at h;exact h)).mono ?_
 rintro e w69 ⟨rfl,hb⟩
 have B69_42:=zh (B68_42.o.go hb)
 clear hb
 clear B68_42
 go_wp2_with fail
 refine(zgrZ ⟨#[97]⟩ w69).mono ?_
 rintro e w70 ⟨rfl,hb⟩
 have B70_42:=zh (B69_42.o.go hb)
 clear hb
 clear B69_42
 go_wp2_with fail
 refine((show Calls Tryz.prog 14 #[_] w70 (fun e W'=>e=.returned (.tuple #[.string ⟨#[]⟩,.int .i64 1])∧Below w70.heap.size w70 W')from by have h:=zfyZ tA _ w70 B70_42.o.lw.g.gs B70_42.o.lw.n (isTN _ [97]) (of_decide_eq_true ztA);rw[sA]at h;exact h)).mono ?_
 rintro e w71 ⟨rfl,hb⟩
 have B71_42:=zh (B70_42.o.go hb)
 clear hb
 obtain⟨w72,K71,hw72,hK71,hb72,hl72⟩:=newW w71 (.cells #[.string ⟨#[97]⟩,.string ⟨#[97]⟩] 9)
 have B72_42:=zh (B71_42.o.go hb72)
 clear hb72
 obtain⟨Q43,B72_43,U43,Fsaa43⟩:=B72_42.o.add (fun X=>StrRow X (.slice (some ⟨K71,0,none⟩) 2 2) [[97],[97]]) (fun _ _ h b=>h.below b) (by rw[←hw72,←hK71];exact StrRow.new w71 [[97],[97]])
 clear B72_42
 obtain⟨xrec0_72,xrec1_72,xrec2_72,xrec3_72,xrec4_72⟩:=zcZ (Frec5.o _ (U6.o _ (U7.o _ (U8.o _ (U9.o _ (U10.o _ (U11.o _ (U12.o _ (U13.o _ (U14.o _ (U15.o _ (U16.o _ (U17.o _ (U18.o _ (U19.o _ (U20.o _ (U21.o _ (U22.o _ (U23.o _ (U24.o _ (U25.o _ (U26.o _ (U27.o _ (U28.o _ (U29.o _ (U30.o _ (U31.o _ (U32.o _ (U33.o _ (U34.o _ (U35.o _ (U36.o _ (U37.o _ (U38.o _ (U39.o _ (U40.o _ (U41.o _ (U42.o _ (U43.o _ B72_43.o.q)))))))))))))))))))))))))))))))))))))))
 have xlrec_72:=zaZ (Frec5.o _ (U6.o _ (U7.o _ (U8.o _ (U9.o _ (U10.o _ (U11.o _ (U12.o _ (U13.o _ (U14.o _ (U15.o _ (U16.o _ (U17.o _ (U18.o _ (U19.o _ (U20.o _ (U21.o _ (U22.o _ (U23.o _ (U24.o _ (U25.o _ (U26.o _ (U27.o _ (U28.o _ (U29.o _ (U30.o _ (U31.o _ (U32.o _ (U33.o _ (U34.o _ (U35.o _ (U36.o _ (U37.o _ (U38.o _ (U39.o _ (U40.o _ (U41.o _ (U42.o _ (U43.o _ B72_43.o.q)))))))))))))))))))))))))))))))))))))))
 have Hg:=ztZ (Frec5.o _ (U6.o _ (U7.o _ (U8.o _ (U9.o _ (U10.o _ (U11.o _ (U12.o _ (U13.o _ (U14.o _ (U15.o _ (U16.o _ (U17.o _ (U18.o _ (U19.o _ (U20.o _ (U21.o _ (U22.o _ (U23.o _ (U24.o _ (U25.o _ (U26.o _ (U27.o _ (U28.o _ (U29.o _ (U30.o _ (U31.o _ (U32.o _ (U33.o _ (U34.o _ (U35.o _ (U36.o _ (U37.o _ (U38.o _ (U39.o _ (U40.o _ (U41.o _ (U42.o _ (U43.o _ B72_43.o.q))))))))))))))))))))))))))))))))))))))) 2
 have H8:=zh (show w0.heap.size≤K5 by rw[←hK5];exact Hc.o)
 have He:=zh (show NG≤K5 by rw[←hK5];exact Hb.o)
 have Ha:=zh hK5
 have Hf:=zh hK71
 have H0:w72.heap[K71]? =some (.cells (strsV [[97],[97]]).toArray 9 (0,0)):=by rw[←hw72,←hK71];exact Row.new w71 [[97],[97]]
 have H7:=zh (show K71≠K5 from fun e=>by
  have h1:w72.heap[K5]? =_:=(Frec5.o _ (U6.o _ (U7.o _ (U8.o _ (U9.o _ (U10.o _ (U11.o _ (U12.o _ (U13.o _ (U14.o _ (U15.o _ (U16.o _ (U17.o _ (U18.o _ (U19.o _ (U20.o _ (U21.o _ (U22.o _ (U23.o _ (U24.o _ (U25.o _ (U26.o _ (U27.o _ (U28.o _ (U29.o _ (U30.o _ (U31.o _ (U32.o _ (U33.o _ (U34.o _ (U35.o _ (U36.o _ (U37.o _ (U38.o _ (U39.o _ (U40.o _ (U41.o _ (U42.o _ (U43.o _ B72_43.o.q)))))))))))))))))))))))))))))))))))))))
  rw[←e,H0]at h1
  injection h1 with h1
  injection h1 with _ h1
  exact absurd h1 (by decide))
 obtain⟨w73,hw73⟩:=zE (w72.setCell ⟨K5,2,none⟩ (.slice (some ⟨K71,0,none⟩) 2 2))
 have H4:∀k,k≠K5→w73.heap[k]? =w72.heap[k]? :=fun k hk=>by rw[←hw73];exact Below.heap_setCell _ ⟨K5,2,none⟩ _ _ (fun e=>hk e)
 have H1:w73.heap[K5]? =some (.cells #[.int .i64 6,.string ⟨#[]⟩,.slice (some ⟨K71,0,none⟩) 2 2,.slice (some ⟨K1,0,none⟩) 2 2,.slice (some ⟨K4,0,none⟩) 2 2] 26 (0,0)):=by
  rw[←hw73]
  simp only[World.setCell,Array.getElem?_modify,(Frec5.o _ (U6.o _ (U7.o _ (U8.o _ (U9.o _ (U10.o _ (U11.o _ (U12.o _ (U13.o _ (U14.o _ (U15.o _ (U16.o _ (U17.o _ (U18.o _ (U19.o _ (U20.o _ (U21.o _ (U22.o _ (U23.o _ (U24.o _ (U25.o _ (U26.o _ (U27.o _ (U28.o _ (U29.o _ (U30.o _ (U31.o _ (U32.o _ (U33.o _ (U34.o _ (U35.o _ (U36.o _ (U37.o _ (U38.o _ (U39.o _ (U40.o _ (U41.o _ (U42.o _ (U43.o _ B72_43.o.q))))))))))))))))))))))))))))))))))))))),if_true,Option.map_some]
  rfl
 have H3:Below w0.heap.size w0 w73:=by rw[←hw73];exact B72_43.o.lw.b.setCell (p:=⟨K5,2,none⟩) H8.o _
 have H9:Hid (LW w0 w73):=zh ⟨H3,⟨B72_43.o.lw.g.gs.of_heap (fun k hk _=>H4 k (by have:=He.o;omega))⟩,Nat.le_trans Hd.o H3.size⟩
 have hj:Below w5.heap.size w5 w73:=by rw[←hw73];exact(Fb84.o _ (U5.o _ (U6.o _ (U7.o _ (U8.o _ (U9.o _ (U10.o _ (U11.o _ (U12.o _ (U13.o _ (U14.o _ (U15.o _ (U16.o _ (U17.o _ (U18.o _ (U19.o _ (U20.o _ (U21.o _ (U22.o _ (U23.o _ (U24.o _ (U25.o _ (U26.o _ (U27.o _ (U28.o _ (U29.o _ (U30.o _ (U31.o _ (U32.o _ (U33.o _ (U34.o _ (U35.o _ (U36.o _ (U37.o _ (U38.o _ (U39.o _ (U40.o _ (U41.o _ (U42.o _ (U43.o _ B72_43.o.q)))))))))))))))))))))))))))))))))))))))).setCell (p:=⟨K5,2,none⟩) (by rw[Ha.o];exact Nat.le_refl _) _
 have H5:StrRow w73 (.slice (some ⟨K71,0,none⟩) 2 2) [[97],[97]]:=⟨_,_,rfl,fun i h=>⟨_,0,rfl,by rw[Nat.zero_add];exact Row.at (show Row w73 K71 [[97],[97]]from(H4 _ H7.o).trans H0) h⟩⟩
 have FR2:=zh (show IsTy w73 (.agg #[.int .i64 6,.string ⟨#[]⟩,.slice (some ⟨K71,0,none⟩) 2 2,.slice (some ⟨K1,0,none⟩) 2 2,.slice (some ⟨K4,0,none⟩) 2 2]) tRec2 from IsTy.made (nm:=[]) H5 (GB.o.below hj) (GR.o.below hj))
 obtain⟨q0,q1,q2,q3,q4⟩:=zcZ H1
 have ql:=zaZ H1
 clear H0 H4 H1 H3 hj H5
 have B73_43:=zh (Bun.start H9.o)
 clear B70_42 B71_42 B72_43
 go_wp2_with fail
 refine((show Calls Tryz.prog 14 #[_] w73 (fun e W'=>e=.returned (.tuple #[.string ⟨#[]⟩,.int .i64 1])∧Below w73.heap.size w73 W')from by have h:=zfyZ tRec2 _ w73 B73_43.o.lw.g.gs B73_43.o.lw.n FR2.o (of_decide_eq_true zwoZ);rw[sRec2]at h;exact h)).mono ?_
 rintro e w74 ⟨rfl,hb⟩
 have B74_43:=zh (B73_43.o.go hb)
 clear hb
 clear hl72 xrec0_72 xrec1_72 xrec2_72 xrec3_72 xrec4_72 xlrec_72
 clear B73_43
 go_wp2_with fail
 refine((show Calls Tryz.prog 24 #[_] w74 (fun e W'=>e=.returned (.tuple #[.string ⟨#[]⟩,.int .i64 0])∧Below w74.heap.size w74 W')from by have h:=zqjZ [] _ w74 B74_43.o.lw.g.gs B74_43.o.lw.n (StRow.nil w74 none 0) (by simp[Sx.sizeSs]) (by simp[Sx.stmts]);rw[sNil]at h;exact h)).mono ?_
 rintro e w75 ⟨rfl,hb⟩
 have B75_43:=zh (B74_43.o.go hb)
 clear hb
 clear q0 q1 q2 q3 q4 ql
 go_wp2_with fail
 go_ret
 exact⟨rfl,B75_43.o.lw⟩
end Go.Proofs.YtdncljdfmdgdaaaGreatDoor
